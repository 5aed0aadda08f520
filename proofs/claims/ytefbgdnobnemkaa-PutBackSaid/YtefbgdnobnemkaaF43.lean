/-
  The document's own text of a range.
-/
import Derived.Test.YtefbgdnobnemkaaF42
import Derived.Test.YtefbgdnobnemkaaM36
set_option linter.unusedSimpArgs false
set_option linter.unusedVariables false
set_option linter.unusedSectionVars false
namespace Go.Proofs.Ytefbgdnobnemkaa.AM
open Go Go.RowKit


set_option maxRecDepth 10000 in
set_option maxHeartbeats 8000000 in
theorem p74 (ls : List (List UInt8)) (k fl fc tl tc : Int) : Pure Try.prog 74 [.slS ls, .agg [.int .i64 k, .int .i64 fl, .int .i64 fc, .int .i64 tl, .int .i64 tc]] (.bool (validL ls k fl fc tl tc)) := by
  refine Pure.ofT tab2_ok Try.func74 rfl rfl [.tmp 4] rfl (by decide) rfl ⟨65, 7, (.node (.node (.node (.node (.node (.node (.node (.leaf (.slS ls)) (J 0)) (J 1)) (J 2)) (J 3)) (J 4)) (J 5)) (.node (.node (.node (.node (.node (.node (.leaf (.agg [.int .i64 k, .int .i64 fl, .int .i64 fc, .int .i64 tl, .int .i64 tc])) (J 0)) (J 1)) (J 2)) (J 3)) (J 4)) (J 5))), (OO 7)⟩ (by kernel_rfl) (by kernel_rfl) ?_
  repeat' (first
    | refine allProp_T ?_
    | exact trivial
    | (refine URun.id ?_; first
        | refine URun.nil ?_
        | refine URun.many tabs2 rfl rfl (by kernel_rfl) ?_ ?_
        | (refine URun.toCall 62 rfl ?_; first
          | refine URun.callB tabs2 rfl rfl rfl rfl (p62 _ _ _) rfl rfl ?_ rfl rfl (fun h => ?_) (fun h => ?_))
        | (refine URun.toCall 26 rfl ?_; first
          | refine URun.callB tabs2 rfl rfl rfl rfl (p26 _ _ _ _) rfl rfl ?_ rfl rfl (fun h => ?_) (fun h => ?_))
        | refine URun.same tabs2 rfl rfl rfl ?_
        | refine URun.same2 tabs2 rfl rfl rfl ?_
        | refine URun.split tabs2 rfl rfl rfl rfl (fun h => ?_) (fun h => ?_))
    | (refine TRun.id ?_; first
        | refine TRun.nil ?_
        | refine TRun.many rfl rfl (by kernel_rfl) ?_ ?_
        | (refine TRun.toCall 62 rfl ?_; first
          | refine TRun.callB rfl rfl rfl rfl (p62 _ _ _) rfl rfl ?_ rfl rfl (fun h => ?_) (fun h => ?_))
        | (refine TRun.toCall 26 rfl ?_; first
          | refine TRun.callB rfl rfl rfl rfl (p26 _ _ _ _) rfl rfl ?_ rfl rfl (fun h => ?_) (fun h => ?_))
        | refine TRun.same rfl rfl rfl ?_
        | refine TRun.same2 rfl rfl rfl ?_
        | refine TRun.split rfl rfl rfl rfl (fun h => ?_) (fun h => ?_))
    | (refine HoldsT.id ?_; first
        | refine HoldsT.seq ?_
        | refine HoldsT.regionU ?_
        | refine HoldsT.drawn tabs2 ?_
        | refine HoldsT.yes rfl ?_
        | refine HoldsT.no rfl ?_
        | refine HoldsT.cond rfl (fun h => ?_) (fun h => ?_)
        | refine HoldsT.block ?_
        | refine HoldsT.ret ?_
        | refine HoldsT.skip ?_
        | refine HoldsT.exit ?_)
    | (refine okTr_intro ?_; kernel_rfl)
    | exact absurd rfl h
    | refine allProp_C ?_ ?_
    | refine And.intro ?_ ?_
    | omega
    | (show _ < List.length _; omega)
    | exact rowlen_intro rfl
    | exact lenEq_intro rfl
    | exact Nat.le_of_ble_eq_true rfl
    | (simp only [AV.rowlenD, AV.rowlen, AV.ncells, mulSz, toN, Option.map_some, Option.map_none, cutL, List.length_take, List.length_drop, List.length_append, List.length_cons, List.length_nil, List.length_set, Option.some.injEq, Int.reduceToNat] <;> omega))
  all_goals refine FinC.te (y := .bool _) rfl rfl trivial (congrArg AV.bool ?_)
  all_goals (simp only [validL]; simp [*]; try omega)

set_option maxRecDepth 10000 in
set_option maxHeartbeats 8000000 in
theorem p75 (s : List UInt8) (k fl fc tl tc : Int) (hs : s.length ≤ 1000000000000) (h0 : 0 ≤ fc) (h1 : fc ≤ tc) : Pure Try.prog 75 [.str s, .agg [.int .i64 k, .int .i64 fl, .int .i64 fc, .int .i64 tl, .int .i64 tc]] (.tup [.int .i64 (min fc s.length), .int .i64 (min tc ((s.length : Int) - 1) + 1)]) := by
  refine Pure.ofT tab2_ok Try.func75 rfl rfl [.tmp 4, .tmp 5] rfl (by decide) rfl ⟨30, 5, (.node (.node (.node (.node (.node (.leaf (.str s)) (J 0)) (J 1)) (J 2)) (J 3)) (.node (.node (.node (.node (.leaf (.agg [.int .i64 k, .int .i64 fl, .int .i64 fc, .int .i64 tl, .int .i64 tc])) (J 0)) (J 1)) (J 2)) (J 3))), (OO 5)⟩ (by kernel_rfl) (by kernel_rfl) ?_
  repeat' (first
    | refine allProp_T ?_
    | exact trivial
    | (refine URun.id ?_; first
        | refine URun.nil ?_
        | refine URun.many tabs2 rfl rfl (by kernel_rfl) ?_ ?_
        | refine URun.same tabs2 rfl rfl rfl ?_
        | refine URun.same2 tabs2 rfl rfl rfl ?_
        | refine URun.split tabs2 rfl rfl rfl rfl (fun h => ?_) (fun h => ?_))
    | (refine TRun.id ?_; first
        | refine TRun.nil ?_
        | refine TRun.many rfl rfl (by kernel_rfl) ?_ ?_
        | refine TRun.same rfl rfl rfl ?_
        | refine TRun.same2 rfl rfl rfl ?_
        | refine TRun.split rfl rfl rfl rfl (fun h => ?_) (fun h => ?_))
    | (refine HoldsT.id ?_; first
        | refine HoldsT.seq ?_
        | refine HoldsT.regionU ?_
        | refine HoldsT.drawn tabs2 ?_
        | refine HoldsT.yes rfl ?_
        | refine HoldsT.no rfl ?_
        | refine HoldsT.cond rfl (fun h => ?_) (fun h => ?_)
        | refine HoldsT.block ?_
        | refine HoldsT.ret ?_
        | refine HoldsT.skip ?_
        | refine HoldsT.exit ?_)
    | (refine okTr_intro ?_; kernel_rfl)
    | exact absurd rfl h
    | refine allProp_C ?_ ?_
    | refine And.intro ?_ ?_
    | omega
    | (show _ < List.length _; omega)
    | exact rowlen_intro rfl
    | exact lenEq_intro rfl
    | exact Nat.le_of_ble_eq_true rfl
    | (simp only [AV.rowlenD, AV.rowlen, AV.ncells, mulSz, toN, Option.map_some, Option.map_none, cutL, List.length_take, List.length_drop, List.length_append, List.length_cons, List.length_nil, List.length_set, Option.some.injEq, Int.reduceToNat] <;> omega))
  all_goals refine FinC.te (y := .tup [.int .i64 _, .int .i64 _]) rfl rfl ⟨trivial, trivial, trivial⟩ ?_
  all_goals (refine tup2 ?_ ?_ <;> omega)

def sh51 (ls : List (List UInt8)) (k fl fc tl tc i : Int) (out : List (List UInt8)) : TS := ⟨79, 7, (.node (.node (.node (.node (.node (.node (.node (.leaf (.slS ls)) (J 0)) (J 1)) (J 2)) (J 3)) (J 4)) (.node (J 4) (.node (.node (.node (.node (.leaf (.int .i64 i)) (J 0)) (J 1)) (J 2)) (J 3)))) (.node (.node (J 4) (.node (.node (.node (.node (.leaf (.own 62 out.length)) (J 0)) (J 1)) (J 2)) (J 3))) (.node (.node (.node (.node (.node (.leaf (.ptr 3 0)) (J 0)) (J 1)) (J 2)) (J 3)) (J 4)))), (.node (.node (OO 5) (.node (OO 4) (.node (OO 3) (.node (OO 2) (.node (OO 1) (.node (.leaf (some ⟨true, true, .slS out, 9⟩)) (OO 0))))))) (.node (OO 5) (.node (.node (.node (.node (.node (.leaf (some ⟨true, false, .agg [.int .i64 k, .int .i64 fl, .int .i64 fc, .int .i64 tl, .int .i64 tc], 35⟩)) (OO 0)) (OO 1)) (OO 2)) (OO 3)) (OO 4))))⟩
theorem cut_all {α : Type} {l : List α} {a b : Nat} (h0 : a = 0) (h1 : b = l.length) : l = cutL l (some a) (some b) := by subst h0 h1; simp [cutL]
set_option maxRecDepth 10000 in
set_option maxHeartbeats 8000000 in
theorem p51 (ls : List (List UInt8)) (k fl fc tl tc : Int) (hL : ls.length ≤ 1000000000) (hB : ∀ n : Nat, (ls.getD n []).length ≤ 1000000000000) : Pure Try.prog 51 [.slS ls, .agg [.int .i64 k, .int .i64 fl, .int .i64 fc, .int .i64 tl, .int .i64 tc]] (.slS (textL ls k fl fc tl tc)) := by
  refine Pure.ofT tab2_ok Try.func51 rfl rfl [.tmp 4] rfl (by decide) rfl ⟨79, 7, (.node (.node (.node (.node (.node (.node (.node (.leaf (.slS ls)) (J 0)) (J 1)) (J 2)) (J 3)) (J 4)) (J 5)) (.node (.node (.node (.node (.node (.node (.leaf (.agg [.int .i64 k, .int .i64 fl, .int .i64 fc, .int .i64 tl, .int .i64 tc])) (J 0)) (J 1)) (J 2)) (J 3)) (J 4)) (J 5))), (OO 7)⟩ (by kernel_rfl) (by kernel_rfl) ?_
  repeat' (first
    | refine allProp_T ?_
    | exact trivial
    | (refine URun.id ?_; first
        | refine URun.nil ?_
        | refine URun.many tabs2 rfl rfl (by kernel_rfl) ?_ ?_
        | (refine URun.toCall 74 rfl ?_; first
          | refine URun.callB tabs2 rfl rfl rfl rfl (p74 _ _ _ _ _ _) rfl rfl ?_ rfl rfl (fun h => ?_) (fun h => ?_))
        | refine URun.same tabs2 rfl rfl rfl ?_
        | refine URun.same2 tabs2 rfl rfl rfl ?_
        | refine URun.split tabs2 rfl rfl rfl rfl (fun h => ?_) (fun h => ?_))
    | (refine TRun.id ?_; first
        | refine TRun.nil ?_
        | refine TRun.many rfl rfl (by kernel_rfl) ?_ ?_
        | (refine TRun.toCall 74 rfl ?_; first
          | refine TRun.callB rfl rfl rfl rfl (p74 _ _ _ _ _ _) rfl rfl ?_ rfl rfl (fun h => ?_) (fun h => ?_))
        | refine TRun.same rfl rfl rfl ?_
        | refine TRun.same2 rfl rfl rfl ?_
        | refine TRun.split rfl rfl rfl rfl (fun h => ?_) (fun h => ?_))
    | (refine HoldsT.id ?_; first
        | refine HoldsT.seq ?_
        | refine HoldsT.regionU ?_
        | refine HoldsT.drawn tabs2 ?_
        | refine HoldsT.yes rfl ?_
        | refine HoldsT.no rfl ?_
        | refine HoldsT.cond rfl (fun h => ?_) (fun h => ?_)
        | refine HoldsT.block ?_
        | refine HoldsT.ret ?_
        | refine HoldsT.skip ?_
        | refine HoldsT.exit ?_)
    | (refine okTr_intro ?_; kernel_rfl)
    | exact absurd rfl h
    | refine allProp_C ?_ ?_
    | refine And.intro ?_ ?_
    | omega
    | (show _ < List.length _; omega)
    | exact rowlen_intro rfl
    | exact lenEq_intro rfl
    | exact Nat.le_of_ble_eq_true rfl
    | (simp only [AV.rowlenD, AV.rowlen, AV.ncells, mulSz, toN, Option.map_some, Option.map_none, cutL, List.length_take, List.length_drop, List.length_append, List.length_cons, List.length_nil, List.length_set, Option.some.injEq, Int.reduceToNat] <;> omega))
  · obtain ⟨hv1, hv2⟩ := validL_spec ‹_›
    refine HoldsT.loop (fun x : Int × List (List UInt8) => sh51 ls k fl fc tl tc x.1 x.2) (fun x => (tl + 1 - x.1).toNat) (fun x => fl ≤ x.1 ∧ x.1 ≤ tl + 1 ∧ x.2 = rowsT ls k fl fc tl tc (x.1 - fl).toNat) (fl, []) ?_ ?_ (fun _ => by kernel_rfl) ?_
    · refine (WeakT.canon 5 62 9 (.slS []) rfl rfl rfl (by kernel_rfl) rfl).trans ?_
      refine WeakT.of ?_ ?_ (by kernel_rfl)
      · repeat' (first | exact TTle.junk _ _ | exact TTle.same _ | refine TTle.node ?_ ?_ | refine TTle.leaf ?_ | exact AVle.junk _ | exact AVle.rfl' rfl | exact AVle.nilS | exact AVle.nilB)
      · repeat' (first | exact OOle.none _ _ | exact OOle.same _ | refine OOle.node ?_ ?_ | exact OOle.leaf _ | exact OOle.gone _)
    · exact ⟨by simp, by simp; omega, by simp [rowsT]⟩
    · intro x hx
      obtain ⟨i, out⟩ := x
      obtain ⟨h1, h2, h3⟩ := hx
      simp only at h1 h2 h3
      have hlen : out.length = (i - fl).toNat := by rw [h3]; exact rowsT_length _ _ _ _ _ _ _
      have hb := hB i.toNat
      have hc : i ≤ tl → 0 ≤ colF ls k fl fc i ∧ colF ls k fl fc i ≤ colT ls k tl tc i ∧ colT ls k tl tc i ≤ ((ls.getD i.toNat []).length : Int) := fun hi => cols_ok ‹_› h1 hi
      have hz : k = 0 → (0 ≤ fc ∧ fc ≤ ((ls.getD fl.toNat []).length : Int)) ∧ (0 ≤ tc ∧ tc ≤ ((ls.getD tl.toNat []).length : Int)) := fun e => by
        rcases hv2 with ⟨_, q1, q2, _⟩ | q | q
        · exact ⟨q1, q2⟩
        · omega
        · omega
      have hf : i = fl → (ls.getD i.toNat []).length = (ls.getD fl.toNat []).length := fun e => by rw [e]
      have ht : i = tl → (ls.getD i.toNat []).length = (ls.getD tl.toNat []).length := fun e => by rw [e]
      have hft : fl = tl → fc ≤ tc ∨ k ≠ 0 := fun e => by
        rcases hv2 with ⟨_, q1, q2, q3⟩ | q | q
        · exact .inl (q3 e)
        · omega
        · omega
      have k75 : k = 2 → Pure Try.prog 75 [.str (ls.getD i.toNat []), .agg [.int .i64 k, .int .i64 fl, .int .i64 fc, .int .i64 tl, .int .i64 tc]] (.tup [.int .i64 (min fc (ls.getD i.toNat []).length), .int .i64 (min tc (((ls.getD i.toNat []).length : Int) - 1) + 1)]) := fun e => p75 _ k fl fc tl tc (by omega) (by omega) (by omega)
      have hrow : ∀ p q : Int, p = colF ls k fl fc i → q = colT ls k tl tc i → some (Obj.mk true true (.slS (out ++ [cutL (ls.getD i.toNat []) (toN (some p)) (toN (some q))])) 9) = some (Obj.mk true true (.slS (out ++ [rowT ls k fl fc tl tc i])) 9) := fun p q e1 e2 => by subst e1 e2; rfl
      have hrow3 : colF ls k fl fc i = 0 → colT ls k tl tc i = ((ls.getD i.toNat []).length : Int) → some (Obj.mk true true (.slS (out ++ [ls.getD i.toNat []])) 9) = some (Obj.mk true true (.slS (out ++ [rowT ls k fl fc tl tc i])) 9) := fun e1 e2 => by
        unfold rowT
        rw [e1, e2, ← cut_all (show (0 : Int).toNat = 0 by rfl) (show (((ls.getD i.toNat []).length : Int)).toNat = _ by simp)]
      show HoldsT Try.prog _ (sh51 ls k fl fc tl tc i out) _
      repeat' (first
        | refine allProp_T ?_
        | exact trivial
        | (refine URun.id ?_; first
            | refine URun.nil ?_
            | refine URun.many tabs2 rfl rfl (by kernel_rfl) ?_ ?_
            | (refine URun.toCall 75 rfl ?_; first
              | refine URun.call tabs2 rfl rfl rfl rfl (k75 ‹_›) rfl rfl ?_ rfl ?_)
            | refine URun.same tabs2 rfl rfl rfl ?_
            | refine URun.same2 tabs2 rfl rfl rfl ?_
            | refine URun.split tabs2 rfl rfl rfl rfl (fun h => ?_) (fun h => ?_))
        | (refine TRun.id ?_; first
            | refine TRun.nil ?_
            | refine TRun.many rfl rfl (by kernel_rfl) ?_ ?_
            | (refine TRun.toCall 75 rfl ?_; first
              | refine TRun.call rfl rfl rfl rfl (k75 ‹_›) rfl rfl ?_ rfl ?_)
            | refine TRun.same rfl rfl rfl ?_
            | refine TRun.same2 rfl rfl rfl ?_
            | refine TRun.split rfl rfl rfl rfl (fun h => ?_) (fun h => ?_))
        | (refine HoldsT.id ?_; first
            | refine HoldsT.seq ?_
            | refine HoldsT.regionU ?_
            | refine HoldsT.drawn tabs2 ?_
            | refine HoldsT.yes rfl ?_
            | refine HoldsT.no rfl ?_
            | refine HoldsT.cond rfl (fun h => ?_) (fun h => ?_)
            | refine HoldsT.block ?_
            | refine HoldsT.ret ?_
            | refine HoldsT.skip ?_
            | refine HoldsT.exit ?_)
        | (refine okTr_intro ?_; kernel_rfl)
        | exact absurd rfl h
        | refine allProp_C ?_ ?_
        | refine And.intro ?_ ?_
        | omega
        | (show _ < List.length _; omega)
        | exact rowlen_intro rfl
        | exact lenEq_intro rfl
        | exact Nat.le_of_ble_eq_true rfl
        | (simp only [AV.rowlenD, AV.rowlen, AV.ncells, mulSz, toN, Option.map_some, Option.map_none, cutL, List.length_take, List.length_drop, List.length_append, List.length_cons, List.length_nil, List.length_set, Option.some.injEq, Int.reduceToNat] <;> omega))
      all_goals first
        | (refine ⟨(i + 1, out ++ [rowT ls k fl fc tl tc i]), ⟨by simp only at *; omega, by simp only at *; omega, by simp only at *; omega, ?_⟩, ?_⟩
           · simp only
             rw [show (i + 1 - fl).toNat = (i - fl).toNat + 1 by omega, rowsT, ← h3, show fl + ((i - fl).toNat : Int) = i by omega]
           · refine WeakT.of ?_ ?_ (by kernel_rfl)
             · repeat' (first | exact TTle.junk _ _ | exact TTle.same _ | refine TTle.node ?_ ?_ | refine TTle.leaf ?_ | exact AVle.junk _ | exact AVle.rfl' rfl | exact AVle.rfl' (congrArg (AV.own 62) (tail_row _ _)))
             · repeat' (first | exact OOle.none _ _ | exact OOle.same _ | refine OOle.node ?_ ?_ | exact OOle.leaf _ | exact OOle.eq (hrow _ _ (by unfold colF lenL; (repeat' split) <;> omega) (by unfold colT lenL; (repeat' split) <;> omega)) | exact OOle.eq (hrow3 (by unfold colF lenL; (repeat' split) <;> omega) (by unfold colT lenL; (repeat' split) <;> omega)) | exact OOle.gone _))
        | (refine FinC.te (y := .slS _) rfl rfl ⟨rfl, trivial⟩ (congrArg AV.slS ?_)
           rw [textL, if_pos ‹_›, h3, show i = tl + 1 by omega, show tl + 1 - fl = tl - fl + 1 by omega])
  · exact FinC.t (y := .nilsl) rfl rfl trivial (by rw [textL, h]; exact AVle.nilS)

end Go.Proofs.Ytefbgdnobnemkaa.AM
