/-
  Lines that are shifted.
-/
import Derived.Test.YtefbgdnobnemkaaDoorFA
import Derived.Test.YtefbgdnobnemkaaDoorLA
set_option linter.unusedSimpArgs false
set_option linter.unusedVariables false
set_option linter.unusedSectionVars false
namespace Go.Proofs.YtefbgdnobnemkaaDoor.AM
open Go Go.RowKit

theorem rep_spc (n : Int) : Lib.repeatL [32] n.toNat = spc n := by
  unfold spc
  induction n.toNat with
  | zero => rfl
  | succ k ih => simp only [Lib.repeatL, List.replicate_succ] at ih ⊢; rw [ih]; rfl
theorem p67s (n : Int) (h0 : 0 ≤ n) (h1 : n ≤ 1000000000) : Pure Tryd.prog 61 [.str [32], .int .i64 n] (.str (spc n)) := by
  have := p67 [32] n h0 (by simp; omega) (by omega)
  rwa [rep_spc] at this
set_option maxRecDepth 10000 in
set_option maxHeartbeats 8000000 in
theorem p109r (s : List UInt8) (n : Int) (h0 : 0 ≤ n) (h1 : n ≤ 1024) (hs : s.length ≤ 1000000000000) : Pure Tryd.prog 48 [.str s, .int .i64 n, .bool false] (.str (shR s n)) := by
  have k67 := p67s (n * 4) (by omega) (by omega)
  have hl := spc_len (i := n * 4)
  refine Pure.ofT tab2_ok Tryd.func48 rfl rfl [.tmp 6] rfl (by decide) rfl ⟨40, 6, (.node (.node (.node (.node (.node (.node (.leaf (.str s)) (J 0)) (J 1)) (J 2)) (J 3)) (.node (.node (.node (.node (.leaf (.bool false)) (J 0)) (J 1)) (J 2)) (J 3))) (.node (.node (.node (.node (.node (.leaf (.int .i64 n)) (J 0)) (J 1)) (J 2)) (J 3)) (J 4))), (OO 6)⟩ (by kernel_rfl) (by kernel_rfl) ?_
  repeat' (first
    | refine allProp_T ?_
    | exact trivial
    | (refine URun.id ?_; first
        | refine URun.nil ?_
        | refine URun.many tabs2 rfl rfl (by kernel_rfl) ?_ ?_
        | (refine URun.toCall 61 rfl ?_; first
          | refine URun.call tabs2 rfl rfl rfl rfl k67 rfl rfl ?_ rfl ?_)
        | refine URun.same tabs2 rfl rfl rfl ?_
        | refine URun.same2 tabs2 rfl rfl rfl ?_
        | refine URun.split tabs2 rfl rfl rfl rfl (fun h => ?_) (fun h => ?_))
    | (refine TRun.id ?_; first
        | refine TRun.nil ?_
        | refine TRun.many rfl rfl (by kernel_rfl) ?_ ?_
        | (refine TRun.toCall 61 rfl ?_; first
          | refine TRun.call rfl rfl rfl rfl k67 rfl rfl ?_ rfl ?_)
        | refine TRun.same rfl rfl rfl ?_
        | refine TRun.same2 rfl rfl rfl ?_
        | refine TRun.split rfl rfl rfl rfl (fun h => ?_) (fun h => ?_))
    | (refine HoldsT.id ?_; first
        | refine HoldsT.seq ?_
        | refine HoldsT.regionU ?_
        | refine HoldsT.drawn tabs2 ?_
        | refine HoldsT.yes rfl ?_
        | refine HoldsT.no rfl ?_
        | refine HoldsT.cond rfl (fun h => ?_) (fun h => ?_)
        | refine HoldsT.block ?_
        | refine HoldsT.ret ?_
        | refine HoldsT.skip ?_
        | refine HoldsT.exit ?_)
    | (refine okTr_intro ?_; kernel_rfl)
    | exact absurd rfl h
    | refine allProp_C ?_ ?_
    | refine And.intro ?_ ?_
    | omega
    | (show _ < List.length _; omega)
    | exact rowlen_intro rfl
    | exact lenEq_intro rfl
    | exact Nat.le_of_ble_eq_true rfl
    | (simp only [AV.rowlenD, AV.rowlen, AV.ncells, mulSz, toN, Option.map_some, Option.map_none, cutL, List.length_take, List.length_drop, List.length_append, List.length_cons, List.length_nil, List.length_set, Option.some.injEq, Int.reduceToNat] <;> omega))
  all_goals first
    | exact FinC.te (y := .str _) rfl rfl trivial (congrArg AV.str (by unfold shR; rw [if_pos ‹_›]; assumption))
    | exact FinC.te (y := .str _) rfl rfl trivial (congrArg AV.str (by unfold shR; rw [if_neg ‹_›]))
def sh109 (s : List UInt8) (n i : Int) : TS := ⟨40, 6, (.node (.node (.node (.node (.node (.node (.leaf (.str s)) (J 0)) (J 1)) (J 2)) (J 3)) (.node (.node (.node (.node (.leaf (.bool true)) (J 0)) (J 1)) (J 2)) (J 3))) (.node (.node (.node (.node (.node (.leaf (.int .i64 n)) (J 0)) (J 1)) (J 2)) (J 3)) (.node (J 3) (.node (.node (.node (.leaf (.int .i64 i)) (J 0)) (J 1)) (J 2))))), (OO 6)⟩
set_option maxRecDepth 10000 in
set_option maxHeartbeats 8000000 in
theorem p109l (s : List UInt8) (n : Int) (h0 : 0 ≤ n) (h1 : n ≤ 1024) (hs : s.length ≤ 1000000000000) : Pure Tryd.prog 48 [.str s, .int .i64 n, .bool true] (.str (shLf s n)) := by
  refine Pure.ofT tab2_ok Tryd.func48 rfl rfl [.tmp 6] rfl (by decide) rfl ⟨40, 6, (.node (.node (.node (.node (.node (.node (.leaf (.str s)) (J 0)) (J 1)) (J 2)) (J 3)) (.node (.node (.node (.node (.leaf (.bool true)) (J 0)) (J 1)) (J 2)) (J 3))) (.node (.node (.node (.node (.node (.leaf (.int .i64 n)) (J 0)) (J 1)) (J 2)) (J 3)) (J 4))), (OO 6)⟩ (by kernel_rfl) (by kernel_rfl) ?_
  repeat' (first
    | refine allProp_T ?_
    | exact trivial
    | (refine URun.id ?_; first
        | refine URun.nil ?_
        | refine URun.many tabs2 rfl rfl (by kernel_rfl) ?_ ?_
        | refine URun.same tabs2 rfl rfl rfl ?_
        | refine URun.same2 tabs2 rfl rfl rfl ?_
        | refine URun.split tabs2 rfl rfl rfl rfl (fun h => ?_) (fun h => ?_))
    | (refine TRun.id ?_; first
        | refine TRun.nil ?_
        | refine TRun.many rfl rfl (by kernel_rfl) ?_ ?_
        | refine TRun.same rfl rfl rfl ?_
        | refine TRun.same2 rfl rfl rfl ?_
        | refine TRun.split rfl rfl rfl rfl (fun h => ?_) (fun h => ?_))
    | (refine HoldsT.id ?_; first
        | refine HoldsT.seq ?_
        | refine HoldsT.regionU ?_
        | refine HoldsT.drawn tabs2 ?_
        | refine HoldsT.yes rfl ?_
        | refine HoldsT.no rfl ?_
        | refine HoldsT.cond rfl (fun h => ?_) (fun h => ?_)
        | refine HoldsT.block ?_
        | refine HoldsT.ret ?_
        | refine HoldsT.skip ?_
        | refine HoldsT.exit ?_)
    | (refine okTr_intro ?_; kernel_rfl)
    | exact absurd rfl h
    | refine allProp_C ?_ ?_
    | refine And.intro ?_ ?_
    | omega
    | (show _ < List.length _; omega)
    | exact rowlen_intro rfl
    | exact lenEq_intro rfl
    | exact Nat.le_of_ble_eq_true rfl
    | (simp only [AV.rowlenD, AV.rowlen, AV.ncells, mulSz, toN, Option.map_some, Option.map_none, cutL, List.length_take, List.length_drop, List.length_append, List.length_cons, List.length_nil, List.length_set, Option.some.injEq, Int.reduceToNat] <;> omega))
  · exact FinC.te (y := .str _) rfl rfl trivial (congrArg AV.str (by
      have h : s = [] := h
      subst h
      rfl))
  · refine HoldsT.loop (fun i : Int => sh109 s n i) (fun i => (s.length - i).toNat) (fun i => 0 ≤ i ∧ i ≤ s.length ∧ i ≤ n * 4 ∧ (s.take i.toNat).all blankB = true) 0 ?_ ?_ (fun _ => by kernel_rfl) ?_
    · refine WeakT.of ?_ ?_ (by kernel_rfl)
      · repeat' (first | exact TTle.junk _ _ | exact TTle.same _ | refine TTle.node ?_ ?_ | refine TTle.leaf ?_ | exact AVle.junk _ | exact AVle.rfl' rfl | exact AVle.nilS | exact AVle.nilB)
      · repeat' (first | exact OOle.none _ _ | exact OOle.same _ | refine OOle.node ?_ ?_ | exact OOle.leaf _ | exact OOle.gone _)
    · exact ⟨by simp, by simp, by omega, rfl⟩
    · intro i hi
      obtain ⟨g1, g2, g3, g4⟩ := hi
      show HoldsT Tryd.prog _ (sh109 s n i) _
      repeat' (first
        | refine allProp_T ?_
        | exact trivial
        | (refine URun.id ?_; first
            | refine URun.nil ?_
            | refine URun.many tabs2 rfl rfl (by kernel_rfl) ?_ ?_
            | (refine URun.toCall 57 rfl ?_; first
              | refine URun.call tabs2 rfl rfl rfl rfl (p116 _) rfl rfl ?_ rfl ?_)
            | refine URun.same tabs2 rfl rfl rfl ?_
            | refine URun.same2 tabs2 rfl rfl rfl ?_
            | refine URun.split tabs2 rfl rfl rfl rfl (fun h => ?_) (fun h => ?_))
        | (refine TRun.id ?_; first
            | refine TRun.nil ?_
            | refine TRun.many rfl rfl (by kernel_rfl) ?_ ?_
            | (refine TRun.toCall 57 rfl ?_; first
              | refine TRun.call rfl rfl rfl rfl (p116 _) rfl rfl ?_ rfl ?_)
            | refine TRun.same rfl rfl rfl ?_
            | refine TRun.same2 rfl rfl rfl ?_
            | refine TRun.split rfl rfl rfl rfl (fun h => ?_) (fun h => ?_))
        | (refine HoldsT.id ?_; first
            | refine HoldsT.seq ?_
            | refine HoldsT.regionU ?_
            | refine HoldsT.drawn tabs2 ?_
            | refine HoldsT.yes rfl ?_
            | refine HoldsT.no rfl ?_
            | refine HoldsT.cond rfl (fun h => ?_) (fun h => ?_)
            | refine HoldsT.block ?_
            | refine HoldsT.ret ?_
            | refine HoldsT.skip ?_
            | refine HoldsT.exit ?_)
        | (refine okTr_intro ?_; kernel_rfl)
        | exact absurd rfl h
        | exact u8_in _
        | refine allProp_C ?_ ?_
        | refine And.intro ?_ ?_
        | omega
        | (show _ < List.length _; omega)
        | exact rowlen_intro rfl
        | exact lenEq_intro rfl
        | exact Nat.le_of_ble_eq_true rfl
        | (simp only [AV.rowlenD, AV.rowlen, AV.ncells, mulSz, toN, Option.map_some, Option.map_none, cutL, List.length_take, List.length_drop, List.length_append, List.length_cons, List.length_nil, List.length_set, Option.some.injEq, Int.reduceToNat] <;> omega))
      all_goals first
        | (refine ⟨i + 1, ⟨by omega, by omega, by omega, by omega, ?_⟩, ?_⟩
           · rw [toNat_succ g1]; exact allb_take g4 (by omega) ‹_›
           · refine WeakT.of ?_ ?_ (by kernel_rfl)
             · repeat' (first | exact TTle.junk _ _ | exact TTle.same _ | refine TTle.node ?_ ?_ | refine TTle.leaf ?_ | exact AVle.junk _ | exact AVle.rfl' rfl | exact AVle.nilS | exact AVle.nilB)
             · repeat' (first | exact OOle.none _ _ | exact OOle.same _ | refine OOle.node ?_ ?_ | exact OOle.leaf _ | exact OOle.gone _))
        | (have q1 := lead_ge g4 (by omega)
           have q2 := lead_le s
           refine FinC.te (y := .str _) rfl rfl trivial (congrArg AV.str ?_)
           unfold shLf
           first
             | (have q3 := leadL_at g4 (by omega) ‹_›
                show s.drop i.toNat = _
                congr 1; omega)
             | (show s.drop i.toNat = _
                congr 1; omega))
set_option maxRecDepth 10000 in
set_option maxHeartbeats 8000000 in
theorem p108r (l0 : List (List UInt8)) (n i : Int) (h0 : 0 ≤ n) (h1 : n ≤ 1024) (hi : 0 ≤ i) (hi2 : i < l0.length) (hL : l0.length ≤ 1000000000) (hB : ∀ n : Nat, (l0.getD n []).length ≤ 1000000000000) : Pure Tryd.prog 47 [.int .i64 i, .cptr (.agg [.slS l0]) 0, .cptr (.agg [.int .i64 n]) 0, .cptr (.agg [.bool false]) 0] (.str (shR (l0.getD i.toNat []) n)) := by
  have k109 := p109r (l0.getD i.toNat []) n h0 h1 (hB _)
  refine Pure.ofT tab2_ok Tryd.func47 rfl rfl [.tmp 5] rfl (by decide) rfl ⟨13, 4, (.node (.node (.node (.node (.leaf (.int .i64 i)) (J 0)) (J 1)) (.node (.node (.leaf (.cptr (.agg [.int .i64 n]) 0)) (J 0)) (J 1))) (.node (.node (.node (.leaf (.cptr (.agg [.slS l0]) 0)) (J 0)) (J 1)) (.node (.node (.leaf (.cptr (.agg [.bool false]) 0)) (J 0)) (J 1)))), (OO 4)⟩ (by kernel_rfl) (by kernel_rfl) ?_
  repeat' (first
    | refine allProp_T ?_
    | exact trivial
    | (refine URun.id ?_; first
        | refine URun.nil ?_
        | refine URun.many tabs2 rfl rfl (by kernel_rfl) ?_ ?_
        | (refine URun.toCall 48 rfl ?_; first
          | refine URun.call tabs2 rfl rfl rfl rfl k109 rfl rfl ?_ rfl ?_)
        | refine URun.same tabs2 rfl rfl rfl ?_
        | refine URun.same2 tabs2 rfl rfl rfl ?_
        | refine URun.split tabs2 rfl rfl rfl rfl (fun h => ?_) (fun h => ?_))
    | (refine TRun.id ?_; first
        | refine TRun.nil ?_
        | refine TRun.many rfl rfl (by kernel_rfl) ?_ ?_
        | (refine TRun.toCall 48 rfl ?_; first
          | refine TRun.call rfl rfl rfl rfl k109 rfl rfl ?_ rfl ?_)
        | refine TRun.same rfl rfl rfl ?_
        | refine TRun.same2 rfl rfl rfl ?_
        | refine TRun.split rfl rfl rfl rfl (fun h => ?_) (fun h => ?_))
    | (refine HoldsT.id ?_; first
        | refine HoldsT.seq ?_
        | refine HoldsT.regionU ?_
        | refine HoldsT.drawn tabs2 ?_
        | refine HoldsT.yes rfl ?_
        | refine HoldsT.no rfl ?_
        | refine HoldsT.cond rfl (fun h => ?_) (fun h => ?_)
        | refine HoldsT.block ?_
        | refine HoldsT.ret ?_
        | refine HoldsT.skip ?_
        | refine HoldsT.exit ?_)
    | (refine okTr_intro ?_; kernel_rfl)
    | exact absurd rfl h
    | refine allProp_C ?_ ?_
    | refine And.intro ?_ ?_
    | omega
    | (show _ < List.length _; omega)
    | exact rowlen_intro rfl
    | exact lenEq_intro rfl
    | exact Nat.le_of_ble_eq_true rfl
    | (simp only [AV.rowlenD, AV.rowlen, AV.ncells, mulSz, toN, Option.map_some, Option.map_none, cutL, List.length_take, List.length_drop, List.length_append, List.length_cons, List.length_nil, List.length_set, Option.some.injEq, Int.reduceToNat] <;> omega))
  all_goals exact FinC.te (y := .str _) rfl rfl trivial rfl
set_option maxRecDepth 10000 in
set_option maxHeartbeats 8000000 in
theorem p108l (l0 : List (List UInt8)) (n i : Int) (h0 : 0 ≤ n) (h1 : n ≤ 1024) (hi : 0 ≤ i) (hi2 : i < l0.length) (hL : l0.length ≤ 1000000000) (hB : ∀ n : Nat, (l0.getD n []).length ≤ 1000000000000) : Pure Tryd.prog 47 [.int .i64 i, .cptr (.agg [.slS l0]) 0, .cptr (.agg [.int .i64 n]) 0, .cptr (.agg [.bool true]) 0] (.str (shLf (l0.getD i.toNat []) n)) := by
  have k109 := p109l (l0.getD i.toNat []) n h0 h1 (hB _)
  refine Pure.ofT tab2_ok Tryd.func47 rfl rfl [.tmp 5] rfl (by decide) rfl ⟨13, 4, (.node (.node (.node (.node (.leaf (.int .i64 i)) (J 0)) (J 1)) (.node (.node (.leaf (.cptr (.agg [.int .i64 n]) 0)) (J 0)) (J 1))) (.node (.node (.node (.leaf (.cptr (.agg [.slS l0]) 0)) (J 0)) (J 1)) (.node (.node (.leaf (.cptr (.agg [.bool true]) 0)) (J 0)) (J 1)))), (OO 4)⟩ (by kernel_rfl) (by kernel_rfl) ?_
  repeat' (first
    | refine allProp_T ?_
    | exact trivial
    | (refine URun.id ?_; first
        | refine URun.nil ?_
        | refine URun.many tabs2 rfl rfl (by kernel_rfl) ?_ ?_
        | (refine URun.toCall 48 rfl ?_; first
          | refine URun.call tabs2 rfl rfl rfl rfl k109 rfl rfl ?_ rfl ?_)
        | refine URun.same tabs2 rfl rfl rfl ?_
        | refine URun.same2 tabs2 rfl rfl rfl ?_
        | refine URun.split tabs2 rfl rfl rfl rfl (fun h => ?_) (fun h => ?_))
    | (refine TRun.id ?_; first
        | refine TRun.nil ?_
        | refine TRun.many rfl rfl (by kernel_rfl) ?_ ?_
        | (refine TRun.toCall 48 rfl ?_; first
          | refine TRun.call rfl rfl rfl rfl k109 rfl rfl ?_ rfl ?_)
        | refine TRun.same rfl rfl rfl ?_
        | refine TRun.same2 rfl rfl rfl ?_
        | refine TRun.split rfl rfl rfl rfl (fun h => ?_) (fun h => ?_))
    | (refine HoldsT.id ?_; first
        | refine HoldsT.seq ?_
        | refine HoldsT.regionU ?_
        | refine HoldsT.drawn tabs2 ?_
        | refine HoldsT.yes rfl ?_
        | refine HoldsT.no rfl ?_
        | refine HoldsT.cond rfl (fun h => ?_) (fun h => ?_)
        | refine HoldsT.block ?_
        | refine HoldsT.ret ?_
        | refine HoldsT.skip ?_
        | refine HoldsT.exit ?_)
    | (refine okTr_intro ?_; kernel_rfl)
    | exact absurd rfl h
    | refine allProp_C ?_ ?_
    | refine And.intro ?_ ?_
    | omega
    | (show _ < List.length _; omega)
    | exact rowlen_intro rfl
    | exact lenEq_intro rfl
    | exact Nat.le_of_ble_eq_true rfl
    | (simp only [AV.rowlenD, AV.rowlen, AV.ncells, mulSz, toN, Option.map_some, Option.map_none, cutL, List.length_take, List.length_drop, List.length_append, List.length_cons, List.length_nil, List.length_set, Option.some.injEq, Int.reduceToNat] <;> omega))
  all_goals exact FinC.te (y := .str _) rfl rfl trivial rfl
def each108r_sh (l0 : List (List UInt8)) (n : Int) (ls : List (List UInt8)) (a b i : Int) (out : List (List UInt8)) : TS := ⟨31, 5, (.node (.node (.node (.node (.node (.leaf (.slS ls)) (J 0)) (.node (.leaf (.ptr 8 0)) (J 0))) (J 2)) (.node (.node (.node (.leaf (.int .i64 b)) (J 0)) (.node (.leaf (.int .i64 i)) (J 0))) (J 2))) (.node (.node (.node (.node (.leaf (.int .i64 a)) (J 0)) (.node (.leaf (.own 22 out.length)) (J 0))) (J 2)) (.node (.node (.node (.leaf (.fn 47 [.cptr (.agg [.slS l0]) 0, .cptr (.agg [.int .i64 n]) 0, .cptr (.agg [.bool false]) 0])) (J 0)) (J 1)) (J 2)))), (.node (.node (.node (.node (OO 1) (.node (.leaf (some ⟨true, false, .agg [.int .i64 0, .nilsl, .nilsl], 31⟩)) (OO 0))) (OO 2)) (.node (OO 2) (.node (.node (OO 0) (.leaf (some ⟨true, true, .slS out, 9⟩))) (OO 1)))) (OO 4))⟩
set_option maxRecDepth 10000 in
set_option maxHeartbeats 8000000 in
theorem each108r (l0 : List (List UInt8)) (n : Int) (F : Int → List UInt8) (ls : List (List UInt8)) (a b : Int) (hL : ls.length ≤ 1000000000) (h0 : 0 ≤ a) (h1 : a ≤ b) (h2 : b < ls.length)
    (hF : ∀ i, a ≤ i → i ≤ b → Pure Tryd.prog 47 [.int .i64 i, .cptr (.agg [.slS l0]) 0, .cptr (.agg [.int .i64 n]) 0, .cptr (.agg [.bool false]) 0] (.str (F i))) :
    Pure Tryd.prog 42 [.slS ls, .int .i64 a, .int .i64 b, .fn 47 [.cptr (.agg [.slS l0]) 0, .cptr (.agg [.int .i64 n]) 0, .cptr (.agg [.bool false]) 0]] (.agg [.int .i64 a, .slS (midL ls a (b - a + 1)), .slS (eachL F a (b - a + 1).toNat)]) := by
  refine Pure.ofT tab2_ok Tryd.func42 rfl rfl [.cell 8 31] rfl (by decide) rfl ⟨31, 5, (.node (.node (.node (.node (.node (.leaf (.slS ls)) (J 0)) (J 1)) (J 2)) (.node (.node (.node (.leaf (.int .i64 b)) (J 0)) (J 1)) (J 2))) (.node (.node (.node (.node (.leaf (.int .i64 a)) (J 0)) (J 1)) (J 2)) (.node (.node (.node (.leaf (.fn 47 [.cptr (.agg [.slS l0]) 0, .cptr (.agg [.int .i64 n]) 0, .cptr (.agg [.bool false]) 0])) (J 0)) (J 1)) (J 2)))), (OO 5)⟩ (by kernel_rfl) (by kernel_rfl) ?_
  repeat' (first
    | refine allProp_T ?_
    | exact trivial
    | (refine URun.id ?_; first
        | refine URun.nil ?_
        | refine URun.many tabs2 rfl rfl (by kernel_rfl) ?_ ?_
        | refine URun.same tabs2 rfl rfl rfl ?_
        | refine URun.same2 tabs2 rfl rfl rfl ?_
        | refine URun.split tabs2 rfl rfl rfl rfl (fun h => ?_) (fun h => ?_))
    | (refine TRun.id ?_; first
        | refine TRun.nil ?_
        | refine TRun.many rfl rfl (by kernel_rfl) ?_ ?_
        | refine TRun.same rfl rfl rfl ?_
        | refine TRun.same2 rfl rfl rfl ?_
        | refine TRun.split rfl rfl rfl rfl (fun h => ?_) (fun h => ?_))
    | (refine HoldsT.id ?_; first
        | refine HoldsT.seq ?_
        | refine HoldsT.regionU ?_
        | refine HoldsT.drawn tabs2 ?_
        | refine HoldsT.yes rfl ?_
        | refine HoldsT.no rfl ?_
        | refine HoldsT.cond rfl (fun h => ?_) (fun h => ?_)
        | refine HoldsT.block ?_
        | refine HoldsT.ret ?_
        | refine HoldsT.skip ?_
        | refine HoldsT.exit ?_)
    | (refine okTr_intro ?_; kernel_rfl)
    | exact absurd rfl h
    | refine allProp_C ?_ ?_
    | refine And.intro ?_ ?_
    | omega
    | (show _ < List.length _; omega)
    | exact rowlen_intro rfl
    | exact lenEq_intro rfl
    | exact Nat.le_of_ble_eq_true rfl
    | (simp only [AV.rowlenD, AV.rowlen, AV.ncells, mulSz, toN, Option.map_some, Option.map_none, cutL, List.length_take, List.length_drop, List.length_append, List.length_cons, List.length_nil, List.length_set, Option.some.injEq, Int.reduceToNat] <;> omega))
  refine HoldsT.loop (fun x : Int × List (List UInt8) => each108r_sh l0 n ls a b x.1 x.2) (fun x => (b + 1 - x.1).toNat) (fun x => a ≤ x.1 ∧ x.1 ≤ b + 1 ∧ x.2 = eachL F a (x.1 - a).toNat) (a, []) ?_ ?_ (fun _ => by kernel_rfl) ?_
  · refine (WeakT.canon 9 22 9 (.slS []) rfl rfl rfl (by kernel_rfl) rfl).trans ?_
    refine WeakT.of ?_ ?_ (by kernel_rfl)
    · repeat' (first | exact TTle.junk _ _ | exact TTle.same _ | refine TTle.node ?_ ?_ | refine TTle.leaf ?_ | exact AVle.junk _ | exact AVle.rfl' rfl | exact AVle.nilS | exact AVle.nilB)
    · repeat' (first | exact OOle.none _ _ | exact OOle.same _ | refine OOle.node ?_ ?_ | exact OOle.leaf _ | exact OOle.gone _)
  · exact ⟨by simp, by simp only; omega, by simp [eachL]⟩
  · intro x hx
    obtain ⟨i, out⟩ := x
    obtain ⟨h3, h4, h5⟩ := hx
    simp only at h3 h4 h5
    have hlen : out.length = (i - a).toNat := by rw [h5]; exact eachL_length _ _ _
    have k80 := p80 ls out a (b - a + 1) (by omega) h0 (by omega) (by omega)
    show HoldsT Tryd.prog _ (each108r_sh l0 n ls a b i out) _
    repeat' (first
      | refine allProp_T ?_
      | exact trivial
      | (refine URun.id ?_; first
          | refine URun.nil ?_
          | refine URun.many tabs2 rfl rfl (by kernel_rfl) ?_ ?_
          | (refine URun.toCall 47 rfl ?_; first
            | refine URun.call tabs2 rfl rfl rfl rfl (hF i (by omega) (by omega)) rfl rfl ?_ rfl ?_)
          | (refine URun.toCall 33 rfl ?_; first
            | refine URun.call tabs2 rfl rfl rfl rfl k80 rfl rfl ?_ rfl ?_)
          | refine URun.same tabs2 rfl rfl rfl ?_
          | refine URun.same2 tabs2 rfl rfl rfl ?_
          | refine URun.split tabs2 rfl rfl rfl rfl (fun h => ?_) (fun h => ?_))
      | (refine TRun.id ?_; first
          | refine TRun.nil ?_
          | refine TRun.many rfl rfl (by kernel_rfl) ?_ ?_
          | (refine TRun.toCall 47 rfl ?_; first
            | refine TRun.call rfl rfl rfl rfl (hF i (by omega) (by omega)) rfl rfl ?_ rfl ?_)
          | (refine TRun.toCall 33 rfl ?_; first
            | refine TRun.call rfl rfl rfl rfl k80 rfl rfl ?_ rfl ?_)
          | refine TRun.same rfl rfl rfl ?_
          | refine TRun.same2 rfl rfl rfl ?_
          | refine TRun.split rfl rfl rfl rfl (fun h => ?_) (fun h => ?_))
      | (refine HoldsT.id ?_; first
          | refine HoldsT.seq ?_
          | refine HoldsT.regionU ?_
          | refine HoldsT.drawn tabs2 ?_
          | refine HoldsT.yes rfl ?_
          | refine HoldsT.no rfl ?_
          | refine HoldsT.cond rfl (fun h => ?_) (fun h => ?_)
          | refine HoldsT.block ?_
          | refine HoldsT.ret ?_
          | refine HoldsT.skip ?_
          | refine HoldsT.exit ?_)
      | (refine okTr_intro ?_; kernel_rfl)
      | exact absurd rfl h
      | refine allProp_C ?_ ?_
      | refine And.intro ?_ ?_
      | omega
      | (show _ < List.length _; omega)
      | exact rowlen_intro rfl
      | exact lenEq_intro rfl
      | exact Nat.le_of_ble_eq_true rfl
      | (simp only [AV.rowlenD, AV.rowlen, AV.ncells, mulSz, toN, Option.map_some, Option.map_none, cutL, List.length_take, List.length_drop, List.length_append, List.length_cons, List.length_nil, List.length_set, Option.some.injEq, Int.reduceToNat] <;> omega))
    · refine ⟨(i + 1, out ++ [F i]), ⟨by simp only at *; omega, by simp only at *; omega, by simp only at *; omega, ?_⟩, ?_⟩
      · simp only
        rw [show (i + 1 - a).toNat = (i - a).toNat + 1 by omega, eachL, ← h5, show a + ((i - a).toNat : Int) = i by omega]
      · refine WeakT.of ?_ ?_ (by kernel_rfl)
        · repeat' (first | exact TTle.junk _ _ | exact TTle.same _ | refine TTle.node ?_ ?_ | refine TTle.leaf ?_ | exact AVle.junk _ | exact AVle.rfl' rfl | exact AVle.nilS | exact AVle.nilB | exact AVle.rfl' (congrArg (AV.own 22) (tail_row _ _)))
        · repeat' (first | exact OOle.none _ _ | exact OOle.same _ | refine OOle.node ?_ ?_ | exact OOle.leaf _ | exact OOle.gone _)
    · refine FinC.te (y := .agg [.int .i64 _, .slS _, .slS _]) rfl rfl ⟨trivial, trivial, trivial, trivial⟩ (congrArg (fun z => AV.agg [.int .i64 a, .slS (midL ls a (b - a + 1)), .slS z]) ?_)
      rw [h5, show i = b + 1 by omega, show b + 1 - a = b - a + 1 by omega]
def each108l_sh (l0 : List (List UInt8)) (n : Int) (ls : List (List UInt8)) (a b i : Int) (out : List (List UInt8)) : TS := ⟨31, 5, (.node (.node (.node (.node (.node (.leaf (.slS ls)) (J 0)) (.node (.leaf (.ptr 8 0)) (J 0))) (J 2)) (.node (.node (.node (.leaf (.int .i64 b)) (J 0)) (.node (.leaf (.int .i64 i)) (J 0))) (J 2))) (.node (.node (.node (.node (.leaf (.int .i64 a)) (J 0)) (.node (.leaf (.own 22 out.length)) (J 0))) (J 2)) (.node (.node (.node (.leaf (.fn 47 [.cptr (.agg [.slS l0]) 0, .cptr (.agg [.int .i64 n]) 0, .cptr (.agg [.bool true]) 0])) (J 0)) (J 1)) (J 2)))), (.node (.node (.node (.node (OO 1) (.node (.leaf (some ⟨true, false, .agg [.int .i64 0, .nilsl, .nilsl], 31⟩)) (OO 0))) (OO 2)) (.node (OO 2) (.node (.node (OO 0) (.leaf (some ⟨true, true, .slS out, 9⟩))) (OO 1)))) (OO 4))⟩
set_option maxRecDepth 10000 in
set_option maxHeartbeats 8000000 in
theorem each108l (l0 : List (List UInt8)) (n : Int) (F : Int → List UInt8) (ls : List (List UInt8)) (a b : Int) (hL : ls.length ≤ 1000000000) (h0 : 0 ≤ a) (h1 : a ≤ b) (h2 : b < ls.length)
    (hF : ∀ i, a ≤ i → i ≤ b → Pure Tryd.prog 47 [.int .i64 i, .cptr (.agg [.slS l0]) 0, .cptr (.agg [.int .i64 n]) 0, .cptr (.agg [.bool true]) 0] (.str (F i))) :
    Pure Tryd.prog 42 [.slS ls, .int .i64 a, .int .i64 b, .fn 47 [.cptr (.agg [.slS l0]) 0, .cptr (.agg [.int .i64 n]) 0, .cptr (.agg [.bool true]) 0]] (.agg [.int .i64 a, .slS (midL ls a (b - a + 1)), .slS (eachL F a (b - a + 1).toNat)]) := by
  refine Pure.ofT tab2_ok Tryd.func42 rfl rfl [.cell 8 31] rfl (by decide) rfl ⟨31, 5, (.node (.node (.node (.node (.node (.leaf (.slS ls)) (J 0)) (J 1)) (J 2)) (.node (.node (.node (.leaf (.int .i64 b)) (J 0)) (J 1)) (J 2))) (.node (.node (.node (.node (.leaf (.int .i64 a)) (J 0)) (J 1)) (J 2)) (.node (.node (.node (.leaf (.fn 47 [.cptr (.agg [.slS l0]) 0, .cptr (.agg [.int .i64 n]) 0, .cptr (.agg [.bool true]) 0])) (J 0)) (J 1)) (J 2)))), (OO 5)⟩ (by kernel_rfl) (by kernel_rfl) ?_
  repeat' (first
    | refine allProp_T ?_
    | exact trivial
    | (refine URun.id ?_; first
        | refine URun.nil ?_
        | refine URun.many tabs2 rfl rfl (by kernel_rfl) ?_ ?_
        | refine URun.same tabs2 rfl rfl rfl ?_
        | refine URun.same2 tabs2 rfl rfl rfl ?_
        | refine URun.split tabs2 rfl rfl rfl rfl (fun h => ?_) (fun h => ?_))
    | (refine TRun.id ?_; first
        | refine TRun.nil ?_
        | refine TRun.many rfl rfl (by kernel_rfl) ?_ ?_
        | refine TRun.same rfl rfl rfl ?_
        | refine TRun.same2 rfl rfl rfl ?_
        | refine TRun.split rfl rfl rfl rfl (fun h => ?_) (fun h => ?_))
    | (refine HoldsT.id ?_; first
        | refine HoldsT.seq ?_
        | refine HoldsT.regionU ?_
        | refine HoldsT.drawn tabs2 ?_
        | refine HoldsT.yes rfl ?_
        | refine HoldsT.no rfl ?_
        | refine HoldsT.cond rfl (fun h => ?_) (fun h => ?_)
        | refine HoldsT.block ?_
        | refine HoldsT.ret ?_
        | refine HoldsT.skip ?_
        | refine HoldsT.exit ?_)
    | (refine okTr_intro ?_; kernel_rfl)
    | exact absurd rfl h
    | refine allProp_C ?_ ?_
    | refine And.intro ?_ ?_
    | omega
    | (show _ < List.length _; omega)
    | exact rowlen_intro rfl
    | exact lenEq_intro rfl
    | exact Nat.le_of_ble_eq_true rfl
    | (simp only [AV.rowlenD, AV.rowlen, AV.ncells, mulSz, toN, Option.map_some, Option.map_none, cutL, List.length_take, List.length_drop, List.length_append, List.length_cons, List.length_nil, List.length_set, Option.some.injEq, Int.reduceToNat] <;> omega))
  refine HoldsT.loop (fun x : Int × List (List UInt8) => each108l_sh l0 n ls a b x.1 x.2) (fun x => (b + 1 - x.1).toNat) (fun x => a ≤ x.1 ∧ x.1 ≤ b + 1 ∧ x.2 = eachL F a (x.1 - a).toNat) (a, []) ?_ ?_ (fun _ => by kernel_rfl) ?_
  · refine (WeakT.canon 9 22 9 (.slS []) rfl rfl rfl (by kernel_rfl) rfl).trans ?_
    refine WeakT.of ?_ ?_ (by kernel_rfl)
    · repeat' (first | exact TTle.junk _ _ | exact TTle.same _ | refine TTle.node ?_ ?_ | refine TTle.leaf ?_ | exact AVle.junk _ | exact AVle.rfl' rfl | exact AVle.nilS | exact AVle.nilB)
    · repeat' (first | exact OOle.none _ _ | exact OOle.same _ | refine OOle.node ?_ ?_ | exact OOle.leaf _ | exact OOle.gone _)
  · exact ⟨by simp, by simp only; omega, by simp [eachL]⟩
  · intro x hx
    obtain ⟨i, out⟩ := x
    obtain ⟨h3, h4, h5⟩ := hx
    simp only at h3 h4 h5
    have hlen : out.length = (i - a).toNat := by rw [h5]; exact eachL_length _ _ _
    have k80 := p80 ls out a (b - a + 1) (by omega) h0 (by omega) (by omega)
    show HoldsT Tryd.prog _ (each108l_sh l0 n ls a b i out) _
    repeat' (first
      | refine allProp_T ?_
      | exact trivial
      | (refine URun.id ?_; first
          | refine URun.nil ?_
          | refine URun.many tabs2 rfl rfl (by kernel_rfl) ?_ ?_
          | (refine URun.toCall 47 rfl ?_; first
            | refine URun.call tabs2 rfl rfl rfl rfl (hF i (by omega) (by omega)) rfl rfl ?_ rfl ?_)
          | (refine URun.toCall 33 rfl ?_; first
            | refine URun.call tabs2 rfl rfl rfl rfl k80 rfl rfl ?_ rfl ?_)
          | refine URun.same tabs2 rfl rfl rfl ?_
          | refine URun.same2 tabs2 rfl rfl rfl ?_
          | refine URun.split tabs2 rfl rfl rfl rfl (fun h => ?_) (fun h => ?_))
      | (refine TRun.id ?_; first
          | refine TRun.nil ?_
          | refine TRun.many rfl rfl (by kernel_rfl) ?_ ?_
          | (refine TRun.toCall 47 rfl ?_; first
            | refine TRun.call rfl rfl rfl rfl (hF i (by omega) (by omega)) rfl rfl ?_ rfl ?_)
          | (refine TRun.toCall 33 rfl ?_; first
            | refine TRun.call rfl rfl rfl rfl k80 rfl rfl ?_ rfl ?_)
          | refine TRun.same rfl rfl rfl ?_
          | refine TRun.same2 rfl rfl rfl ?_
          | refine TRun.split rfl rfl rfl rfl (fun h => ?_) (fun h => ?_))
      | (refine HoldsT.id ?_; first
          | refine HoldsT.seq ?_
          | refine HoldsT.regionU ?_
          | refine HoldsT.drawn tabs2 ?_
          | refine HoldsT.yes rfl ?_
          | refine HoldsT.no rfl ?_
          | refine HoldsT.cond rfl (fun h => ?_) (fun h => ?_)
          | refine HoldsT.block ?_
          | refine HoldsT.ret ?_
          | refine HoldsT.skip ?_
          | refine HoldsT.exit ?_)
      | (refine okTr_intro ?_; kernel_rfl)
      | exact absurd rfl h
      | refine allProp_C ?_ ?_
      | refine And.intro ?_ ?_
      | omega
      | (show _ < List.length _; omega)
      | exact rowlen_intro rfl
      | exact lenEq_intro rfl
      | exact Nat.le_of_ble_eq_true rfl
      | (simp only [AV.rowlenD, AV.rowlen, AV.ncells, mulSz, toN, Option.map_some, Option.map_none, cutL, List.length_take, List.length_drop, List.length_append, List.length_cons, List.length_nil, List.length_set, Option.some.injEq, Int.reduceToNat] <;> omega))
    · refine ⟨(i + 1, out ++ [F i]), ⟨by simp only at *; omega, by simp only at *; omega, by simp only at *; omega, ?_⟩, ?_⟩
      · simp only
        rw [show (i + 1 - a).toNat = (i - a).toNat + 1 by omega, eachL, ← h5, show a + ((i - a).toNat : Int) = i by omega]
      · refine WeakT.of ?_ ?_ (by kernel_rfl)
        · repeat' (first | exact TTle.junk _ _ | exact TTle.same _ | refine TTle.node ?_ ?_ | refine TTle.leaf ?_ | exact AVle.junk _ | exact AVle.rfl' rfl | exact AVle.nilS | exact AVle.nilB | exact AVle.rfl' (congrArg (AV.own 22) (tail_row _ _)))
        · repeat' (first | exact OOle.none _ _ | exact OOle.same _ | refine OOle.node ?_ ?_ | exact OOle.leaf _ | exact OOle.gone _)
    · refine FinC.te (y := .agg [.int .i64 _, .slS _, .slS _]) rfl rfl ⟨trivial, trivial, trivial, trivial⟩ (congrArg (fun z => AV.agg [.int .i64 a, .slS (midL ls a (b - a + 1)), .slS z]) ?_)
      rw [h5, show i = b + 1 by omega, show b + 1 - a = b - a + 1 by omega]
set_option maxRecDepth 10000 in
set_option maxHeartbeats 8000000 in
theorem p90r (ls : List (List UInt8)) (fl tl n : Int) (hL : ls.length ≤ 1000000000) (hB : ∀ n : Nat, (ls.getD n []).length ≤ 1000000000000) (h0 : 0 ≤ fl) (h1 : fl ≤ tl) (h2 : tl < ls.length) (hn : 1 ≤ n) :
    Pure Tryd.prog 26 [.slS ls, .int .i64 fl, .int .i64 tl, .int .i64 n, .bool false] (ChR.av ⟨true, fl, midL ls fl (tl - fl + 1), eachL (fun i => shR (ls.getD i.toNat []) (min n 1024)) fl (tl - fl + 1).toNat⟩) := by
  have k106 := each108r ls (min n 1024) (fun i => shR (ls.getD i.toNat []) (min n 1024)) ls fl tl (by omega) (by omega) (by omega) (by omega) (fun i h1 h2 => p108r ls (min n 1024) i (by omega) (by omega) (by omega) (by omega) (by omega) hB)
  refine Pure.ofT tab2_ok Tryd.func26 rfl rfl [.cell 10 31, .tmp 11] rfl (by decide) rfl ⟨37, 6, (.node (.node (.node (.node (.node (.node (.leaf (.slS ls)) (J 0)) (J 1)) (J 2)) (.node (.node (.node (.leaf (.bool false)) (J 0)) (J 1)) (J 2))) (.node (.node (.node (.node (.leaf (.int .i64 tl)) (J 0)) (J 1)) (J 2)) (J 3))) (.node (.node (.node (.node (.node (.leaf (.int .i64 fl)) (J 0)) (J 1)) (J 2)) (J 3)) (.node (.node (.node (.node (.leaf (.int .i64 n)) (J 0)) (J 1)) (J 2)) (J 3)))), (OO 6)⟩ (by kernel_rfl) (by kernel_rfl) ?_
  repeat' (first
    | refine allProp_T ?_
    | exact trivial
    | (refine URun.id ?_; first
        | refine URun.nil ?_
        | refine URun.many tabs2 rfl rfl (by kernel_rfl) ?_ ?_
        | (refine URun.toCall 42 rfl ?_; first
          | refine URun.call tabs2 rfl rfl rfl rfl k106 rfl rfl ?_ rfl ?_)
        | refine URun.same tabs2 rfl rfl rfl ?_
        | refine URun.same2 tabs2 rfl rfl rfl ?_
        | refine URun.yes tabs2 rfl rfl (by omega) rfl ?_
        | refine URun.no tabs2 rfl rfl (by omega) rfl ?_
        | refine URun.split tabs2 rfl rfl rfl rfl (fun h => ?_) (fun h => ?_))
    | (refine TRun.id ?_; first
        | refine TRun.nil ?_
        | refine TRun.many rfl rfl (by kernel_rfl) ?_ ?_
        | (refine TRun.toCall 42 rfl ?_; first
          | refine TRun.call rfl rfl rfl rfl k106 rfl rfl ?_ rfl ?_)
        | refine TRun.same rfl rfl rfl ?_
        | refine TRun.same2 rfl rfl rfl ?_
        | refine TRun.yes rfl rfl (by omega) rfl ?_
        | refine TRun.no rfl rfl (by omega) rfl ?_
        | refine TRun.split rfl rfl rfl rfl (fun h => ?_) (fun h => ?_))
    | (refine HoldsT.id ?_; first
        | refine HoldsT.seq ?_
        | refine HoldsT.regionU ?_
        | refine HoldsT.drawn tabs2 ?_
        | refine HoldsT.yes rfl ?_
        | refine HoldsT.no rfl ?_
        | refine HoldsT.cond rfl (fun h => ?_) (fun h => ?_)
        | refine HoldsT.block ?_
        | refine HoldsT.ret ?_
        | refine HoldsT.skip ?_
        | refine HoldsT.exit ?_)
    | (refine okTr_intro ?_; kernel_rfl)
    | exact absurd rfl h
    | (show isBox _ _ = true; exact rfl)
    | refine allProp_C ?_ ?_
    | refine And.intro ?_ ?_
    | omega
    | (show _ < List.length _; omega)
    | exact rowlen_intro rfl
    | exact lenEq_intro rfl
    | exact Nat.le_of_ble_eq_true rfl
    | (simp only [AV.rowlenD, AV.rowlen, AV.ncells, mulSz, toN, Option.map_some, Option.map_none, cutL, List.length_take, List.length_drop, List.length_append, List.length_cons, List.length_nil, List.length_set, Option.some.injEq, Int.reduceToNat] <;> omega))
  all_goals exact FinC.t (y := .tup [.agg [.int .i64 _, .slS _, .slS _], .bool _]) rfl rfl ⟨⟨trivial, trivial, trivial, trivial⟩, trivial, trivial⟩ (AVle.rfl' rfl)
set_option maxRecDepth 10000 in
set_option maxHeartbeats 8000000 in
theorem p90l (ls : List (List UInt8)) (fl tl n : Int) (hL : ls.length ≤ 1000000000) (hB : ∀ n : Nat, (ls.getD n []).length ≤ 1000000000000) (h0 : 0 ≤ fl) (h1 : fl ≤ tl) (h2 : tl < ls.length) (hn : 1 ≤ n) :
    Pure Tryd.prog 26 [.slS ls, .int .i64 fl, .int .i64 tl, .int .i64 n, .bool true] (ChR.av ⟨true, fl, midL ls fl (tl - fl + 1), eachL (fun i => shLf (ls.getD i.toNat []) (min n 1024)) fl (tl - fl + 1).toNat⟩) := by
  have k106 := each108l ls (min n 1024) (fun i => shLf (ls.getD i.toNat []) (min n 1024)) ls fl tl (by omega) (by omega) (by omega) (by omega) (fun i h1 h2 => p108l ls (min n 1024) i (by omega) (by omega) (by omega) (by omega) (by omega) hB)
  refine Pure.ofT tab2_ok Tryd.func26 rfl rfl [.cell 10 31, .tmp 11] rfl (by decide) rfl ⟨37, 6, (.node (.node (.node (.node (.node (.node (.leaf (.slS ls)) (J 0)) (J 1)) (J 2)) (.node (.node (.node (.leaf (.bool true)) (J 0)) (J 1)) (J 2))) (.node (.node (.node (.node (.leaf (.int .i64 tl)) (J 0)) (J 1)) (J 2)) (J 3))) (.node (.node (.node (.node (.node (.leaf (.int .i64 fl)) (J 0)) (J 1)) (J 2)) (J 3)) (.node (.node (.node (.node (.leaf (.int .i64 n)) (J 0)) (J 1)) (J 2)) (J 3)))), (OO 6)⟩ (by kernel_rfl) (by kernel_rfl) ?_
  repeat' (first
    | refine allProp_T ?_
    | exact trivial
    | (refine URun.id ?_; first
        | refine URun.nil ?_
        | refine URun.many tabs2 rfl rfl (by kernel_rfl) ?_ ?_
        | (refine URun.toCall 42 rfl ?_; first
          | refine URun.call tabs2 rfl rfl rfl rfl k106 rfl rfl ?_ rfl ?_)
        | refine URun.same tabs2 rfl rfl rfl ?_
        | refine URun.same2 tabs2 rfl rfl rfl ?_
        | refine URun.yes tabs2 rfl rfl (by omega) rfl ?_
        | refine URun.no tabs2 rfl rfl (by omega) rfl ?_
        | refine URun.split tabs2 rfl rfl rfl rfl (fun h => ?_) (fun h => ?_))
    | (refine TRun.id ?_; first
        | refine TRun.nil ?_
        | refine TRun.many rfl rfl (by kernel_rfl) ?_ ?_
        | (refine TRun.toCall 42 rfl ?_; first
          | refine TRun.call rfl rfl rfl rfl k106 rfl rfl ?_ rfl ?_)
        | refine TRun.same rfl rfl rfl ?_
        | refine TRun.same2 rfl rfl rfl ?_
        | refine TRun.yes rfl rfl (by omega) rfl ?_
        | refine TRun.no rfl rfl (by omega) rfl ?_
        | refine TRun.split rfl rfl rfl rfl (fun h => ?_) (fun h => ?_))
    | (refine HoldsT.id ?_; first
        | refine HoldsT.seq ?_
        | refine HoldsT.regionU ?_
        | refine HoldsT.drawn tabs2 ?_
        | refine HoldsT.yes rfl ?_
        | refine HoldsT.no rfl ?_
        | refine HoldsT.cond rfl (fun h => ?_) (fun h => ?_)
        | refine HoldsT.block ?_
        | refine HoldsT.ret ?_
        | refine HoldsT.skip ?_
        | refine HoldsT.exit ?_)
    | (refine okTr_intro ?_; kernel_rfl)
    | exact absurd rfl h
    | (show isBox _ _ = true; exact rfl)
    | refine allProp_C ?_ ?_
    | refine And.intro ?_ ?_
    | omega
    | (show _ < List.length _; omega)
    | exact rowlen_intro rfl
    | exact lenEq_intro rfl
    | exact Nat.le_of_ble_eq_true rfl
    | (simp only [AV.rowlenD, AV.rowlen, AV.ncells, mulSz, toN, Option.map_some, Option.map_none, cutL, List.length_take, List.length_drop, List.length_append, List.length_cons, List.length_nil, List.length_set, Option.some.injEq, Int.reduceToNat] <;> omega))
  all_goals exact FinC.t (y := .tup [.agg [.int .i64 _, .slS _, .slS _], .bool _]) rfl rfl ⟨⟨trivial, trivial, trivial, trivial⟩, trivial, trivial⟩ (AVle.rfl' rfl)

end Go.Proofs.YtefbgdnobnemkaaDoor.AM
