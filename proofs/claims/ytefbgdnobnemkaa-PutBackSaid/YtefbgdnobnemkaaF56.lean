/-
  The document's own cut of bytes, of lines.
-/
import Derived.Test.YtefbgdnobnemkaaF43
set_option linter.unusedSimpArgs false
set_option linter.unusedVariables false
set_option linter.unusedSectionVars false
namespace Go.Proofs.Ytefbgdnobnemkaa.AM
open Go Go.RowKit


set_option maxRecDepth 10000 in
set_option maxHeartbeats 8000000 in
theorem p77 (ls now : List (List UInt8)) (a b : Int) (hl : ls.length ≤ 1000000000) (h0 : 0 ≤ a) (h1 : a ≤ b + 1) (h2 : b < ls.length) : Pure Try.prog 77 [.slS ls, .int .i64 a, .int .i64 b, .slS now] (.tup [.agg [.int .i64 a, .slS (midL ls a (b - a + 1)), .slS now], .bool true]) := by
  have e : midL ls a (b - a + 1) = cutL ls (some a.toNat) (some (b + 1).toNat) := by
    unfold midL; rw [show a + (b - a + 1) = b + 1 by omega]
  have hc : (cutL ls (some a.toNat) (some (b + 1).toNat)).length ≤ ls.length := cutL_le _ _ _
  rw [e]
  refine Pure.ofT tab2_ok Try.func77 rfl rfl [.cell 8 47, .tmp 9] rfl (by decide) rfl ⟨19, 5, (.node (.node (.node (.node (.node (.leaf (.slS ls)) (J 0)) (J 1)) (J 2)) (.node (.node (.node (.leaf (.int .i64 b)) (J 0)) (J 1)) (J 2))) (.node (.node (.node (.node (.leaf (.int .i64 a)) (J 0)) (J 1)) (J 2)) (.node (.node (.node (.leaf (.slS now)) (J 0)) (J 1)) (J 2)))), (OO 5)⟩ (by kernel_rfl) (by kernel_rfl) ?_
  repeat' (first
    | refine allProp_T ?_
    | exact trivial
    | (refine URun.id ?_; first
        | refine URun.nil ?_
        | refine URun.many tabs2 rfl rfl (by kernel_rfl) ?_ ?_
        | refine URun.same tabs2 rfl rfl rfl ?_
        | refine URun.same2 tabs2 rfl rfl rfl ?_
        | refine URun.split tabs2 rfl rfl rfl rfl (fun h => ?_) (fun h => ?_))
    | (refine TRun.id ?_; first
        | refine TRun.nil ?_
        | refine TRun.many rfl rfl (by kernel_rfl) ?_ ?_
        | refine TRun.same rfl rfl rfl ?_
        | refine TRun.same2 rfl rfl rfl ?_
        | refine TRun.split rfl rfl rfl rfl (fun h => ?_) (fun h => ?_))
    | (refine HoldsT.id ?_; first
        | refine HoldsT.seq ?_
        | refine HoldsT.regionU ?_
        | refine HoldsT.drawn tabs2 ?_
        | refine HoldsT.yes rfl ?_
        | refine HoldsT.no rfl ?_
        | refine HoldsT.cond rfl (fun h => ?_) (fun h => ?_)
        | refine HoldsT.block ?_
        | refine HoldsT.ret ?_
        | refine HoldsT.skip ?_
        | refine HoldsT.exit ?_)
    | (refine okTr_intro ?_; kernel_rfl)
    | exact absurd rfl h
    | refine allProp_C ?_ ?_
    | refine And.intro ?_ ?_
    | omega
    | (show _ < List.length _; omega)
    | exact rowlen_intro rfl
    | exact lenEq_intro rfl
    | exact Nat.le_of_ble_eq_true rfl
    | (simp only [AV.rowlenD, AV.rowlen, AV.ncells, mulSz, toN, Option.map_some, Option.map_none, cutL, List.length_take, List.length_drop, List.length_append, List.length_cons, List.length_nil, List.length_set, Option.some.injEq, Int.reduceToNat] <;> omega))
  all_goals exact FinC.te (y := .tup [.agg [.int .i64 _, .slS _, .slS _], .bool _]) rfl rfl ⟨⟨trivial, ⟨rfl, trivial⟩, trivial, trivial⟩, trivial, trivial⟩ rfl
set_option maxRecDepth 10000 in
set_option maxHeartbeats 8000000 in
theorem p53 (ls : List (List UInt8)) (k fl fc tl tc : Int) (hk : k = 0 ∨ k = 1) (hL : ls.length ≤ 1000000000) (hB : ∀ n : Nat, (ls.getD n []).length ≤ 1000000000000) (hv : validL ls k fl fc tl tc = true) :
    Pure Try.prog 53 [.slS ls, .agg [.int .i64 k, .int .i64 fl, .int .i64 fc, .int .i64 tl, .int .i64 tc]] (cutR ls k fl fc tl tc).av := by
  obtain ⟨hv1, hv2⟩ := validL_spec hv
  have hbf := hB fl.toNat
  have hbt := hB tl.toNat
  have k74 := p74 ls k fl fc tl tc
  rw [hv] at k74
  have k77 := fun now => p77 ls now fl tl hL (by omega) (by omega) (by omega)
  have k77n : Pure Try.prog 77 [.slS ls, .int .i64 fl, .int .i64 tl, .nilsl] (.tup [.agg [.int .i64 fl, .slS (midL ls fl (tl - fl + 1)), .slS []], .bool true]) := (k77 []).le (.cons (.refl _) (.cons (.refl _) (.cons (.refl _) (.cons .nilS .nil))))
  unfold cutR
  rw [if_pos hv]
  rcases hk with rfl | rfl
  · have hz : (0 ≤ fc ∧ fc ≤ ((ls.getD fl.toNat []).length : Int)) ∧ (0 ≤ tc ∧ tc ≤ ((ls.getD tl.toNat []).length : Int)) := by
      rcases hv2 with ⟨_, q1, q2, _⟩ | q | q
      · exact ⟨q1, q2⟩
      · omega
      · omega
    rw [if_pos rfl]
    refine Pure.ofT tab2_ok Try.func53 rfl rfl [.cell 4 47, .tmp 5] rfl (by decide) rfl ⟨103, 7, (.node (.node (.node (.node (.node (.node (.node (.leaf (.slS ls)) (J 0)) (J 1)) (J 2)) (J 3)) (J 4)) (J 5)) (.node (.node (.node (.node (.node (.node (.leaf (.agg [.int .i64 0, .int .i64 fl, .int .i64 fc, .int .i64 tl, .int .i64 tc])) (J 0)) (J 1)) (J 2)) (J 3)) (J 4)) (J 5))), (OO 7)⟩ (by kernel_rfl) (by kernel_rfl) ?_
    repeat' (first
      | refine allProp_T ?_
      | exact trivial
      | (refine URun.id ?_; first
          | refine URun.nil ?_
          | refine URun.many tabs2 rfl rfl (by kernel_rfl) ?_ ?_
          | (refine URun.toCall 74 rfl ?_; first
            | refine URun.call tabs2 rfl rfl rfl rfl k74 rfl rfl ?_ rfl ?_)
          | (refine URun.toCall 77 rfl ?_; first
            | refine URun.call tabs2 rfl rfl rfl rfl k77n rfl rfl ?_ rfl ?_
            | refine URun.call tabs2 rfl rfl rfl rfl (k77 _) rfl rfl ?_ rfl ?_)
          | refine URun.same tabs2 rfl rfl rfl ?_
          | refine URun.same2 tabs2 rfl rfl rfl ?_
          | refine URun.yes tabs2 rfl rfl rfl rfl ?_
          | refine URun.no tabs2 rfl rfl rfl rfl ?_
          | refine URun.split tabs2 rfl rfl rfl rfl (fun h => ?_) (fun h => ?_))
      | (refine TRun.id ?_; first
          | refine TRun.nil ?_
          | refine TRun.many rfl rfl (by kernel_rfl) ?_ ?_
          | (refine TRun.toCall 74 rfl ?_; first
            | refine TRun.call rfl rfl rfl rfl k74 rfl rfl ?_ rfl ?_)
          | (refine TRun.toCall 77 rfl ?_; first
            | refine TRun.call rfl rfl rfl rfl k77n rfl rfl ?_ rfl ?_
            | refine TRun.call rfl rfl rfl rfl (k77 _) rfl rfl ?_ rfl ?_)
          | refine TRun.same rfl rfl rfl ?_
          | refine TRun.same2 rfl rfl rfl ?_
          | refine TRun.yes rfl rfl rfl rfl ?_
          | refine TRun.no rfl rfl rfl rfl ?_
          | refine TRun.split rfl rfl rfl rfl (fun h => ?_) (fun h => ?_))
      | (refine HoldsT.id ?_; first
          | refine HoldsT.seq ?_
          | refine HoldsT.regionU ?_
          | refine HoldsT.drawn tabs2 ?_
          | refine HoldsT.yes rfl ?_
          | refine HoldsT.no rfl ?_
          | refine HoldsT.cond rfl (fun h => ?_) (fun h => ?_)
          | refine HoldsT.block ?_
          | refine HoldsT.ret ?_
          | refine HoldsT.skip ?_
          | refine HoldsT.exit ?_)
      | (refine okTr_intro ?_; kernel_rfl)
      | exact absurd rfl h
      | refine allProp_C ?_ ?_
      | refine And.intro ?_ ?_
      | omega
      | (show _ < List.length _; omega)
      | exact rowlen_intro rfl
      | exact lenEq_intro rfl
      | exact Nat.le_of_ble_eq_true rfl
      | (simp only [AV.rowlenD, AV.rowlen, AV.ncells, mulSz, toN, Option.map_some, Option.map_none, cutL, List.length_take, List.length_drop, List.length_append, List.length_cons, List.length_nil, List.length_set, Option.some.injEq, Int.reduceToNat] <;> omega))
    all_goals exact FinC.t (y := .tup [.agg [.int .i64 _, .slS _, .slS _], .bool _]) rfl rfl ⟨⟨trivial, trivial, trivial, trivial⟩, trivial, trivial⟩ (AVle.rfl' rfl)
  · rw [if_neg (by omega), if_neg (by omega)]
    by_cases hw : tl - fl + 1 = ls.length
    · rw [if_pos hw]
      refine Pure.ofT tab2_ok Try.func53 rfl rfl [.cell 4 47, .tmp 5] rfl (by decide) rfl ⟨103, 7, (.node (.node (.node (.node (.node (.node (.node (.leaf (.slS ls)) (J 0)) (J 1)) (J 2)) (J 3)) (J 4)) (J 5)) (.node (.node (.node (.node (.node (.node (.leaf (.agg [.int .i64 1, .int .i64 fl, .int .i64 fc, .int .i64 tl, .int .i64 tc])) (J 0)) (J 1)) (J 2)) (J 3)) (J 4)) (J 5))), (OO 7)⟩ (by kernel_rfl) (by kernel_rfl) ?_
      repeat' (first
        | refine allProp_T ?_
        | exact trivial
        | (refine URun.id ?_; first
            | refine URun.nil ?_
            | refine URun.many tabs2 rfl rfl (by kernel_rfl) ?_ ?_
            | (refine URun.toCall 74 rfl ?_; first
              | refine URun.call tabs2 rfl rfl rfl rfl k74 rfl rfl ?_ rfl ?_)
            | (refine URun.toCall 77 rfl ?_; first
              | refine URun.call tabs2 rfl rfl rfl rfl k77n rfl rfl ?_ rfl ?_
              | refine URun.call tabs2 rfl rfl rfl rfl (k77 _) rfl rfl ?_ rfl ?_)
            | refine URun.same tabs2 rfl rfl rfl ?_
            | refine URun.same2 tabs2 rfl rfl rfl ?_
            | refine URun.yes tabs2 rfl rfl rfl rfl ?_
            | refine URun.no tabs2 rfl rfl rfl rfl ?_
            | refine URun.yes tabs2 rfl rfl hw rfl ?_
            | refine URun.no tabs2 rfl rfl hw rfl ?_
            | refine URun.yes tabs2 rfl rfl (by decide) rfl ?_
            | refine URun.no tabs2 rfl rfl (by decide) rfl ?_
            | refine URun.split tabs2 rfl rfl rfl rfl (fun h => ?_) (fun h => ?_))
        | (refine TRun.id ?_; first
            | refine TRun.nil ?_
            | refine TRun.many rfl rfl (by kernel_rfl) ?_ ?_
            | (refine TRun.toCall 74 rfl ?_; first
              | refine TRun.call rfl rfl rfl rfl k74 rfl rfl ?_ rfl ?_)
            | (refine TRun.toCall 77 rfl ?_; first
              | refine TRun.call rfl rfl rfl rfl k77n rfl rfl ?_ rfl ?_
              | refine TRun.call rfl rfl rfl rfl (k77 _) rfl rfl ?_ rfl ?_)
            | refine TRun.same rfl rfl rfl ?_
            | refine TRun.same2 rfl rfl rfl ?_
            | refine TRun.yes rfl rfl rfl rfl ?_
            | refine TRun.no rfl rfl rfl rfl ?_
            | refine TRun.yes rfl rfl hw rfl ?_
            | refine TRun.no rfl rfl hw rfl ?_
            | refine TRun.yes rfl rfl (by decide) rfl ?_
            | refine TRun.no rfl rfl (by decide) rfl ?_
            | refine TRun.split rfl rfl rfl rfl (fun h => ?_) (fun h => ?_))
        | (refine HoldsT.id ?_; first
            | refine HoldsT.seq ?_
            | refine HoldsT.regionU ?_
            | refine HoldsT.drawn tabs2 ?_
            | refine HoldsT.yes rfl ?_
            | refine HoldsT.no rfl ?_
            | refine HoldsT.cond rfl (fun h => ?_) (fun h => ?_)
            | refine HoldsT.block ?_
            | refine HoldsT.ret ?_
            | refine HoldsT.skip ?_
            | refine HoldsT.exit ?_)
        | (refine okTr_intro ?_; kernel_rfl)
        | exact absurd rfl h
        | refine allProp_C ?_ ?_
        | refine And.intro ?_ ?_
        | omega
        | (show _ < List.length _; omega)
        | exact rowlen_intro rfl
        | exact lenEq_intro rfl
        | exact Nat.le_of_ble_eq_true rfl
        | (simp only [AV.rowlenD, AV.rowlen, AV.ncells, mulSz, toN, Option.map_some, Option.map_none, cutL, List.length_take, List.length_drop, List.length_append, List.length_cons, List.length_nil, List.length_set, Option.some.injEq, Int.reduceToNat] <;> omega))
      all_goals exact FinC.t (y := .tup [.agg [.int .i64 _, .slS _, .slS _], .bool _]) rfl rfl ⟨⟨trivial, trivial, trivial, trivial⟩, trivial, trivial⟩ (AVle.rfl' rfl)
    · rw [if_neg hw]
      refine Pure.ofT tab2_ok Try.func53 rfl rfl [.cell 4 47, .tmp 5] rfl (by decide) rfl ⟨103, 7, (.node (.node (.node (.node (.node (.node (.node (.leaf (.slS ls)) (J 0)) (J 1)) (J 2)) (J 3)) (J 4)) (J 5)) (.node (.node (.node (.node (.node (.node (.leaf (.agg [.int .i64 1, .int .i64 fl, .int .i64 fc, .int .i64 tl, .int .i64 tc])) (J 0)) (J 1)) (J 2)) (J 3)) (J 4)) (J 5))), (OO 7)⟩ (by kernel_rfl) (by kernel_rfl) ?_
      repeat' (first
        | refine allProp_T ?_
        | exact trivial
        | (refine URun.id ?_; first
            | refine URun.nil ?_
            | refine URun.many tabs2 rfl rfl (by kernel_rfl) ?_ ?_
            | (refine URun.toCall 74 rfl ?_; first
              | refine URun.call tabs2 rfl rfl rfl rfl k74 rfl rfl ?_ rfl ?_)
            | (refine URun.toCall 77 rfl ?_; first
              | refine URun.call tabs2 rfl rfl rfl rfl k77n rfl rfl ?_ rfl ?_
              | refine URun.call tabs2 rfl rfl rfl rfl (k77 _) rfl rfl ?_ rfl ?_)
            | refine URun.same tabs2 rfl rfl rfl ?_
            | refine URun.same2 tabs2 rfl rfl rfl ?_
            | refine URun.yes tabs2 rfl rfl rfl rfl ?_
            | refine URun.no tabs2 rfl rfl rfl rfl ?_
            | refine URun.yes tabs2 rfl rfl hw rfl ?_
            | refine URun.no tabs2 rfl rfl hw rfl ?_
            | refine URun.yes tabs2 rfl rfl (by decide) rfl ?_
            | refine URun.no tabs2 rfl rfl (by decide) rfl ?_
            | refine URun.split tabs2 rfl rfl rfl rfl (fun h => ?_) (fun h => ?_))
        | (refine TRun.id ?_; first
            | refine TRun.nil ?_
            | refine TRun.many rfl rfl (by kernel_rfl) ?_ ?_
            | (refine TRun.toCall 74 rfl ?_; first
              | refine TRun.call rfl rfl rfl rfl k74 rfl rfl ?_ rfl ?_)
            | (refine TRun.toCall 77 rfl ?_; first
              | refine TRun.call rfl rfl rfl rfl k77n rfl rfl ?_ rfl ?_
              | refine TRun.call rfl rfl rfl rfl (k77 _) rfl rfl ?_ rfl ?_)
            | refine TRun.same rfl rfl rfl ?_
            | refine TRun.same2 rfl rfl rfl ?_
            | refine TRun.yes rfl rfl rfl rfl ?_
            | refine TRun.no rfl rfl rfl rfl ?_
            | refine TRun.yes rfl rfl hw rfl ?_
            | refine TRun.no rfl rfl hw rfl ?_
            | refine TRun.yes rfl rfl (by decide) rfl ?_
            | refine TRun.no rfl rfl (by decide) rfl ?_
            | refine TRun.split rfl rfl rfl rfl (fun h => ?_) (fun h => ?_))
        | (refine HoldsT.id ?_; first
            | refine HoldsT.seq ?_
            | refine HoldsT.regionU ?_
            | refine HoldsT.drawn tabs2 ?_
            | refine HoldsT.yes rfl ?_
            | refine HoldsT.no rfl ?_
            | refine HoldsT.cond rfl (fun h => ?_) (fun h => ?_)
            | refine HoldsT.block ?_
            | refine HoldsT.ret ?_
            | refine HoldsT.skip ?_
            | refine HoldsT.exit ?_)
        | (refine okTr_intro ?_; kernel_rfl)
        | exact absurd rfl h
        | refine allProp_C ?_ ?_
        | refine And.intro ?_ ?_
        | omega
        | (show _ < List.length _; omega)
        | exact rowlen_intro rfl
        | exact lenEq_intro rfl
        | exact Nat.le_of_ble_eq_true rfl
        | (simp only [AV.rowlenD, AV.rowlen, AV.ncells, mulSz, toN, Option.map_some, Option.map_none, cutL, List.length_take, List.length_drop, List.length_append, List.length_cons, List.length_nil, List.length_set, Option.some.injEq, Int.reduceToNat] <;> omega))
      all_goals exact FinC.t (y := .tup [.agg [.int .i64 _, .slS _, .slS _], .bool _]) rfl rfl ⟨⟨trivial, trivial, trivial, trivial⟩, trivial, trivial⟩ (AVle.rfl' rfl)

end Go.Proofs.Ytefbgdnobnemkaa.AM
