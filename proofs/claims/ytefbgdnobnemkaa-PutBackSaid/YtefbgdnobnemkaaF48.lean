/-
  Lines that are put.
-/
import Derived.Test.YtefbgdnobnemkaaF47
set_option linter.unusedSimpArgs false
set_option linter.unusedVariables false
set_option linter.unusedSectionVars false
namespace Go.Proofs.Ytefbgdnobnemkaa.AM
open Go Go.RowKit

theorem nilOld {a l c : Int} {new : List (List UInt8)} : AVle (.tup [.agg [.int .i64 a, .nilsl, .slS new], .agg [.int .i64 l, .int .i64 c], .bool true]) (TyR.av ⟨true, a, [], new, l, c⟩) :=
  .tup (.cons (.agg (.cons (.refl _) (.cons .nilS (.cons (.refl _) .nil)))) (.cons (.refl _) (.cons (.refl _) .nil)))

set_option maxRecDepth 10000 in
set_option maxHeartbeats 8000000 in
theorem p98_1 (rs : List (List UInt8)) (l k : Int) (hr : rs.length ≤ 1000000) (h0 : 0 < rs.length) (hR : ∀ n : Nat, (rs.getD n []).length ≤ 1000000) :
    Pure Try.prog 98 [.int .i64 l, .agg [.int .i64 k, .slS rs], .int .i64 1] (TyR.av ⟨true, l, [], rs, l, firstL ((rs).getD 0 [])⟩) := by
  have hB : ∀ n : Nat, ((rs).getD n []).length ≤ 1000000 := hR
  have hlen : (rs).length = 1 * rs.length := by first | omega | (simp only [List.length_append]; omega)
  have hl2 : (rs).length = rs.length := by first | rfl | (simp only [List.length_append])
  have k93 := p93 ((rs).getD 0 []) (by have := hB 0; omega)
  refine Pure.ofT tab2_ok Try.func98 rfl rfl [.cell 6 47, .cell 7 23, .tmp 8] rfl (by decide) rfl ⟨30, 5, (.node (.node (.node (.node (.node (.leaf (.int .i64 l)) (J 0)) (J 1)) (J 2)) (.node (.node (.node (.leaf (.int .i64 1)) (J 0)) (J 1)) (J 2))) (.node (.node (.node (.node (.leaf (.agg [.int .i64 k, .slS rs])) (J 0)) (J 1)) (J 2)) (J 3))), (OO 5)⟩ (by kernel_rfl) (by kernel_rfl) ?_
  repeat' (first
    | refine allProp_T ?_
    | exact trivial
    | (refine URun.id ?_; first
        | refine URun.nil ?_
        | refine URun.many tabs2 rfl rfl (by kernel_rfl) ?_ ?_
        | (refine URun.toCall 93 rfl ?_; first
          | refine URun.call tabs2 rfl rfl rfl rfl k93 rfl rfl ?_ rfl ?_)
        | refine URun.same tabs2 rfl rfl rfl ?_
        | refine URun.same2 tabs2 rfl rfl rfl ?_
        | refine URun.yes tabs2 rfl rfl (by decide) rfl ?_
        | refine URun.no tabs2 rfl rfl (by decide) rfl ?_
        | refine URun.split tabs2 rfl rfl rfl rfl (fun h => ?_) (fun h => ?_))
    | (refine TRun.id ?_; first
        | refine TRun.nil ?_
        | refine TRun.many rfl rfl (by kernel_rfl) ?_ ?_
        | (refine TRun.toCall 93 rfl ?_; first
          | refine TRun.call rfl rfl rfl rfl k93 rfl rfl ?_ rfl ?_)
        | refine TRun.same rfl rfl rfl ?_
        | refine TRun.same2 rfl rfl rfl ?_
        | refine TRun.yes rfl rfl (by decide) rfl ?_
        | refine TRun.no rfl rfl (by decide) rfl ?_
        | refine TRun.split rfl rfl rfl rfl (fun h => ?_) (fun h => ?_))
    | (refine HoldsT.id ?_; first
        | refine HoldsT.seq ?_
        | refine HoldsT.regionU ?_
        | refine HoldsT.drawn tabs2 ?_
        | refine HoldsT.yes rfl ?_
        | refine HoldsT.no rfl ?_
        | refine HoldsT.cond rfl (fun h => ?_) (fun h => ?_)
        | refine HoldsT.block ?_
        | refine HoldsT.ret ?_
        | refine HoldsT.skip ?_
        | refine HoldsT.exit ?_)
    | refine HoldsT.rounds 2 ?_
    | refine HoldsT.round ?_
    | (refine okTr_intro ?_; kernel_rfl)
    | exact absurd rfl h
    | refine allProp_C ?_ ?_
    | refine And.intro ?_ ?_
    | omega
    | (show _ < List.length _; omega)
    | exact rowlen_intro rfl
    | exact lenEq_intro rfl
    | exact Nat.le_of_ble_eq_true rfl
    | (simp only [AV.rowlenD, AV.rowlen, AV.ncells, mulSz, toN, Option.map_some, Option.map_none, cutL, List.length_take, List.length_drop, List.length_append, List.length_cons, List.length_nil, List.length_set, Option.some.injEq, Int.reduceToNat] <;> omega))
  all_goals exact FinC.t (y := .tup [.agg [.int .i64 _, .nilsl, .slS _], .agg [.int .i64 _, .int .i64 _], .bool _]) rfl rfl ⟨⟨trivial, trivial, ⟨congrArg some hl2, trivial⟩, trivial⟩, ⟨trivial, trivial, trivial⟩, trivial, trivial⟩ nilOld

set_option maxRecDepth 10000 in
set_option maxHeartbeats 8000000 in
theorem p98_2 (rs : List (List UInt8)) (l k : Int) (hr : rs.length ≤ 1000000) (h0 : 0 < rs.length) (hR : ∀ n : Nat, (rs.getD n []).length ≤ 1000000) :
    Pure Try.prog 98 [.int .i64 l, .agg [.int .i64 k, .slS rs], .int .i64 2] (TyR.av ⟨true, l, [], rs ++ rs, l, firstL ((rs ++ rs).getD 0 [])⟩) := by
  have hB : ∀ n : Nat, ((rs ++ rs).getD n []).length ≤ 1000000 := getD_append_le hR hR
  have hlen : (rs ++ rs).length = 2 * rs.length := by first | omega | (simp only [List.length_append]; omega)
  have hl2 : (rs ++ rs).length = rs.length + rs.length := by first | rfl | (simp only [List.length_append])
  have k93 := p93 ((rs ++ rs).getD 0 []) (by have := hB 0; omega)
  refine Pure.ofT tab2_ok Try.func98 rfl rfl [.cell 6 47, .cell 7 23, .tmp 8] rfl (by decide) rfl ⟨30, 5, (.node (.node (.node (.node (.node (.leaf (.int .i64 l)) (J 0)) (J 1)) (J 2)) (.node (.node (.node (.leaf (.int .i64 2)) (J 0)) (J 1)) (J 2))) (.node (.node (.node (.node (.leaf (.agg [.int .i64 k, .slS rs])) (J 0)) (J 1)) (J 2)) (J 3))), (OO 5)⟩ (by kernel_rfl) (by kernel_rfl) ?_
  repeat' (first
    | refine allProp_T ?_
    | exact trivial
    | (refine URun.id ?_; first
        | refine URun.nil ?_
        | refine URun.many tabs2 rfl rfl (by kernel_rfl) ?_ ?_
        | (refine URun.toCall 93 rfl ?_; first
          | refine URun.call tabs2 rfl rfl rfl rfl k93 rfl rfl ?_ rfl ?_)
        | refine URun.same tabs2 rfl rfl rfl ?_
        | refine URun.same2 tabs2 rfl rfl rfl ?_
        | refine URun.yes tabs2 rfl rfl (by decide) rfl ?_
        | refine URun.no tabs2 rfl rfl (by decide) rfl ?_
        | refine URun.split tabs2 rfl rfl rfl rfl (fun h => ?_) (fun h => ?_))
    | (refine TRun.id ?_; first
        | refine TRun.nil ?_
        | refine TRun.many rfl rfl (by kernel_rfl) ?_ ?_
        | (refine TRun.toCall 93 rfl ?_; first
          | refine TRun.call rfl rfl rfl rfl k93 rfl rfl ?_ rfl ?_)
        | refine TRun.same rfl rfl rfl ?_
        | refine TRun.same2 rfl rfl rfl ?_
        | refine TRun.yes rfl rfl (by decide) rfl ?_
        | refine TRun.no rfl rfl (by decide) rfl ?_
        | refine TRun.split rfl rfl rfl rfl (fun h => ?_) (fun h => ?_))
    | (refine HoldsT.id ?_; first
        | refine HoldsT.seq ?_
        | refine HoldsT.regionU ?_
        | refine HoldsT.drawn tabs2 ?_
        | refine HoldsT.yes rfl ?_
        | refine HoldsT.no rfl ?_
        | refine HoldsT.cond rfl (fun h => ?_) (fun h => ?_)
        | refine HoldsT.block ?_
        | refine HoldsT.ret ?_
        | refine HoldsT.skip ?_
        | refine HoldsT.exit ?_)
    | refine HoldsT.rounds 3 ?_
    | refine HoldsT.round ?_
    | (refine okTr_intro ?_; kernel_rfl)
    | exact absurd rfl h
    | refine allProp_C ?_ ?_
    | refine And.intro ?_ ?_
    | omega
    | (show _ < List.length _; omega)
    | exact rowlen_intro rfl
    | exact lenEq_intro rfl
    | exact Nat.le_of_ble_eq_true rfl
    | (simp only [AV.rowlenD, AV.rowlen, AV.ncells, mulSz, toN, Option.map_some, Option.map_none, cutL, List.length_take, List.length_drop, List.length_append, List.length_cons, List.length_nil, List.length_set, Option.some.injEq, Int.reduceToNat] <;> omega))
  all_goals exact FinC.t (y := .tup [.agg [.int .i64 _, .nilsl, .slS _], .agg [.int .i64 _, .int .i64 _], .bool _]) rfl rfl ⟨⟨trivial, trivial, ⟨congrArg some hl2, trivial⟩, trivial⟩, ⟨trivial, trivial, trivial⟩, trivial, trivial⟩ nilOld

set_option maxRecDepth 10000 in
set_option maxHeartbeats 8000000 in
theorem p98_3 (rs : List (List UInt8)) (l k : Int) (hr : rs.length ≤ 1000000) (h0 : 0 < rs.length) (hR : ∀ n : Nat, (rs.getD n []).length ≤ 1000000) :
    Pure Try.prog 98 [.int .i64 l, .agg [.int .i64 k, .slS rs], .int .i64 3] (TyR.av ⟨true, l, [], rs ++ rs ++ rs, l, firstL ((rs ++ rs ++ rs).getD 0 [])⟩) := by
  have hB : ∀ n : Nat, ((rs ++ rs ++ rs).getD n []).length ≤ 1000000 := getD_append_le (getD_append_le hR hR) hR
  have hlen : (rs ++ rs ++ rs).length = 3 * rs.length := by first | omega | (simp only [List.length_append]; omega)
  have hl2 : (rs ++ rs ++ rs).length = rs.length + rs.length + rs.length := by first | rfl | (simp only [List.length_append])
  have k93 := p93 ((rs ++ rs ++ rs).getD 0 []) (by have := hB 0; omega)
  refine Pure.ofT tab2_ok Try.func98 rfl rfl [.cell 6 47, .cell 7 23, .tmp 8] rfl (by decide) rfl ⟨30, 5, (.node (.node (.node (.node (.node (.leaf (.int .i64 l)) (J 0)) (J 1)) (J 2)) (.node (.node (.node (.leaf (.int .i64 3)) (J 0)) (J 1)) (J 2))) (.node (.node (.node (.node (.leaf (.agg [.int .i64 k, .slS rs])) (J 0)) (J 1)) (J 2)) (J 3))), (OO 5)⟩ (by kernel_rfl) (by kernel_rfl) ?_
  repeat' (first
    | refine allProp_T ?_
    | exact trivial
    | (refine URun.id ?_; first
        | refine URun.nil ?_
        | refine URun.many tabs2 rfl rfl (by kernel_rfl) ?_ ?_
        | (refine URun.toCall 93 rfl ?_; first
          | refine URun.call tabs2 rfl rfl rfl rfl k93 rfl rfl ?_ rfl ?_)
        | refine URun.same tabs2 rfl rfl rfl ?_
        | refine URun.same2 tabs2 rfl rfl rfl ?_
        | refine URun.yes tabs2 rfl rfl (by decide) rfl ?_
        | refine URun.no tabs2 rfl rfl (by decide) rfl ?_
        | refine URun.split tabs2 rfl rfl rfl rfl (fun h => ?_) (fun h => ?_))
    | (refine TRun.id ?_; first
        | refine TRun.nil ?_
        | refine TRun.many rfl rfl (by kernel_rfl) ?_ ?_
        | (refine TRun.toCall 93 rfl ?_; first
          | refine TRun.call rfl rfl rfl rfl k93 rfl rfl ?_ rfl ?_)
        | refine TRun.same rfl rfl rfl ?_
        | refine TRun.same2 rfl rfl rfl ?_
        | refine TRun.yes rfl rfl (by decide) rfl ?_
        | refine TRun.no rfl rfl (by decide) rfl ?_
        | refine TRun.split rfl rfl rfl rfl (fun h => ?_) (fun h => ?_))
    | (refine HoldsT.id ?_; first
        | refine HoldsT.seq ?_
        | refine HoldsT.regionU ?_
        | refine HoldsT.drawn tabs2 ?_
        | refine HoldsT.yes rfl ?_
        | refine HoldsT.no rfl ?_
        | refine HoldsT.cond rfl (fun h => ?_) (fun h => ?_)
        | refine HoldsT.block ?_
        | refine HoldsT.ret ?_
        | refine HoldsT.skip ?_
        | refine HoldsT.exit ?_)
    | refine HoldsT.rounds 4 ?_
    | refine HoldsT.round ?_
    | (refine okTr_intro ?_; kernel_rfl)
    | exact absurd rfl h
    | refine allProp_C ?_ ?_
    | refine And.intro ?_ ?_
    | omega
    | (show _ < List.length _; omega)
    | exact rowlen_intro rfl
    | exact lenEq_intro rfl
    | exact Nat.le_of_ble_eq_true rfl
    | (simp only [AV.rowlenD, AV.rowlen, AV.ncells, mulSz, toN, Option.map_some, Option.map_none, cutL, List.length_take, List.length_drop, List.length_append, List.length_cons, List.length_nil, List.length_set, Option.some.injEq, Int.reduceToNat] <;> omega))
  all_goals exact FinC.t (y := .tup [.agg [.int .i64 _, .nilsl, .slS _], .agg [.int .i64 _, .int .i64 _], .bool _]) rfl rfl ⟨⟨trivial, trivial, ⟨congrArg some hl2, trivial⟩, trivial⟩, ⟨trivial, trivial, trivial⟩, trivial, trivial⟩ nilOld

end Go.Proofs.Ytefbgdnobnemkaa.AM
