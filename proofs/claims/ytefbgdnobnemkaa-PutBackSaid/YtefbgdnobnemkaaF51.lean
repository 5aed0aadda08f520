/-
  Putting: the chapter's own example.
-/
import Derived.Test.YtefbgdnobnemkaaF50
set_option linter.unusedSimpArgs false
set_option linter.unusedVariables false
set_option linter.unusedSectionVars false
namespace Go.Proofs.Ytefbgdnobnemkaa.AM
open Go Go.RowKit

theorem k54a : Pure Try.prog 54 [.slS [[97, 98]], .agg [.int .i64 0, .int .i64 0], .agg [.int .i64 0, .slS [[120]]], .bool false, .int .i64 1] (.tup [.agg [.int .i64 0, .slS [[97, 98]], .slS [[97, 120, 98]]], .agg [.int .i64 0, .int .i64 1], .bool true]) := by
  have k79 := p79c_false [[97, 98]] [[120]] 0 0 (by decide) (fun n => by
    match n with
    | 0 => decide
    | n + 1 => simp) (by decide) 1 (by decide) (by decide) (fun n => by
    match n with
    | 0 => decide
    | n + 1 => simp) (by decide) (by decide)
  have h := p54w [[97, 98]] [[120]] 0 0 0 1 false (by decide) (by decide) (by decide) (by decide) (by decide) 0 0 1 [[97, 98]] [[97, 120, 98]] (by decide) (by decide) (by decide) (by rw [show appL [[97, 98]] 0 [[97, 98]] [[97, 120, 98]] = [[97, 120, 98]] by decide]; exact (fun n => by
    match n with
    | 0 => decide
    | n + 1 => simp)) (by decide) (by decide) k79
  rwa [show clL (appL [[97, 98]] 0 [[97, 98]] [[97, 120, 98]]) 0 = 0 by decide, show clC (appL [[97, 98]] 0 [[97, 98]] [[97, 120, 98]]) 0 1 false = 1 by decide] at h
theorem k54b : Pure Try.prog 54 [.slS [[97, 98]], .agg [.int .i64 0, .int .i64 0], .agg [.int .i64 1, .slS [[32, 121]]], .bool false, .int .i64 2] (.tup [.agg [.int .i64 1, .slS [], .slS [[32, 121], [32, 121]]], .agg [.int .i64 1, .int .i64 1], .bool true]) := by
  have k79 := p79l_false2 [[97, 98]] [[32, 121]] 0 0 (by decide) (fun n => by
    match n with
    | 0 => decide
    | n + 1 => simp) (by decide) (by decide) (by decide) (fun n => by
    match n with
    | 0 => decide
    | n + 1 => simp)
  have h := p54w [[97, 98]] [[32, 121]] 0 0 1 2 false (by decide) (by decide) (by decide) (by decide) (by decide) 1 1 1 [] [[32, 121], [32, 121]] (by decide) (by decide) (by decide) (by rw [show appL [[97, 98]] 1 [] [[32, 121], [32, 121]] = [[97, 98], [32, 121], [32, 121]] by decide]; exact (fun n => by
    match n with
    | 0 => decide
    | 1 => decide
    | 2 => decide
    | n + 3 => simp)) (by decide) (by decide) k79
  rwa [show clL (appL [[97, 98]] 1 [] [[32, 121], [32, 121]]) 1 = 1 by decide, show clC (appL [[97, 98]] 1 [] [[32, 121], [32, 121]]) 1 1 false = 1 by decide] at h
theorem k54c : Pure Try.prog 54 [.slS [[97, 98]], .agg [.int .i64 0, .int .i64 0], .agg [.int .i64 0, .nilsl], .bool false, .int .i64 1] tyNo.av :=
  (p54_no [[97, 98]] [] 0 0 0 1 false (by decide) (by decide) (by decide)).le (.cons (.refl _) (.cons (.refl _) (.cons (.agg (.cons (.refl _) (.cons .nilS .nil))) (.cons (.refl _) (.cons (.refl _) .nil)))))
theorem k30c : Pure Try.prog 30 [.slS [[97, 120, 98]], .slS [[97, 120, 98]]] (.bool true) := by
  have h := p30 [[97, 120, 98]] [[97, 120, 98]] (by decide)
  rwa [show decide (([[97, 120, 98]] : List (List UInt8)) = [[97, 120, 98]]) = true by decide] at h
set_option maxRecDepth 10000 in
set_option maxHeartbeats 8000000 in
theorem p52 : Pure Try.prog 52 [] (.bool true) := by
  refine Pure.ofT tab2_ok Try.func52 rfl rfl [.tmp 0] rfl (by decide) rfl ⟨73, 7, (J 7), (OO 7)⟩ (by kernel_rfl) (by kernel_rfl) ?_
  repeat' (first
    | refine allProp_T ?_
    | exact trivial
    | (refine URun.id ?_; first
        | refine URun.nil ?_
        | refine URun.many tabs2 rfl rfl (by kernel_rfl) ?_ ?_
        | (refine URun.toCall 54 rfl ?_; first
          | refine URun.call tabs2 rfl rfl rfl rfl k54a rfl rfl ?_ rfl ?_
          | refine URun.call tabs2 rfl rfl rfl rfl k54b rfl rfl ?_ rfl ?_
          | refine URun.call tabs2 rfl rfl rfl rfl k54c rfl rfl ?_ rfl ?_)
        | (refine URun.toCall 30 rfl ?_; first
          | refine URun.call tabs2 rfl rfl rfl rfl k30c rfl rfl ?_ rfl ?_)
        | refine URun.same tabs2 rfl rfl rfl ?_
        | refine URun.same2 tabs2 rfl rfl rfl ?_
        | refine URun.yes tabs2 rfl rfl rfl rfl ?_
        | refine URun.no tabs2 rfl rfl rfl rfl ?_
        | refine URun.yes tabs2 rfl rfl ⟨rfl, rfl⟩ rfl ?_
        | refine URun.no tabs2 rfl rfl ⟨rfl, rfl⟩ rfl ?_
        | refine URun.yes tabs2 rfl rfl (by decide) rfl ?_
        | refine URun.no tabs2 rfl rfl (by decide) rfl ?_
        | refine URun.split tabs2 rfl rfl rfl rfl (fun h => ?_) (fun h => ?_))
    | (refine TRun.id ?_; first
        | refine TRun.nil ?_
        | refine TRun.many rfl rfl (by kernel_rfl) ?_ ?_
        | (refine TRun.toCall 54 rfl ?_; first
          | refine TRun.call rfl rfl rfl rfl k54a rfl rfl ?_ rfl ?_
          | refine TRun.call rfl rfl rfl rfl k54b rfl rfl ?_ rfl ?_
          | refine TRun.call rfl rfl rfl rfl k54c rfl rfl ?_ rfl ?_)
        | (refine TRun.toCall 30 rfl ?_; first
          | refine TRun.call rfl rfl rfl rfl k30c rfl rfl ?_ rfl ?_)
        | refine TRun.same rfl rfl rfl ?_
        | refine TRun.same2 rfl rfl rfl ?_
        | refine TRun.yes rfl rfl rfl rfl ?_
        | refine TRun.no rfl rfl rfl rfl ?_
        | refine TRun.yes rfl rfl ⟨rfl, rfl⟩ rfl ?_
        | refine TRun.no rfl rfl ⟨rfl, rfl⟩ rfl ?_
        | refine TRun.yes rfl rfl (by decide) rfl ?_
        | refine TRun.no rfl rfl (by decide) rfl ?_
        | refine TRun.split rfl rfl rfl rfl (fun h => ?_) (fun h => ?_))
    | (refine HoldsT.id ?_; first
        | refine HoldsT.seq ?_
        | refine HoldsT.regionU ?_
        | refine HoldsT.drawn tabs2 ?_
        | refine HoldsT.yes rfl ?_
        | refine HoldsT.no rfl ?_
        | refine HoldsT.cond rfl (fun h => ?_) (fun h => ?_)
        | refine HoldsT.block ?_
        | refine HoldsT.ret ?_
        | refine HoldsT.skip ?_
        | refine HoldsT.exit ?_)
    | (refine okTr_intro ?_; kernel_rfl)
    | exact absurd rfl h
    | refine allProp_C ?_ ?_
    | refine And.intro ?_ ?_
    | omega
    | (show _ < List.length _; omega)
    | exact rowlen_intro rfl
    | exact lenEq_intro rfl
    | exact Nat.le_of_ble_eq_true rfl
    | (simp only [AV.rowlenD, AV.rowlen, AV.ncells, mulSz, toN, Option.map_some, Option.map_none, cutL, List.length_take, List.length_drop, List.length_append, List.length_cons, List.length_nil, List.length_set, Option.some.injEq, Int.reduceToNat] <;> omega))
  exact FinC.te (y := .bool _) rfl rfl trivial rfl

end Go.Proofs.Ytefbgdnobnemkaa.AM
