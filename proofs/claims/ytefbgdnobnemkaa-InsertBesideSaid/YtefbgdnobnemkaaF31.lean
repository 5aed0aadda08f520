/-
  Operators: the chapter's own example.
-/
import Derived.Test.YtefbgdnobnemkaaF30
set_option linter.unusedSimpArgs false
set_option linter.unusedVariables false
set_option linter.unusedSectionVars false
namespace Go.Proofs.Ytefbgdnobnemkaa.AM
open Go Go.RowKit

theorem k48a : Pure Try.prog 48 [.slS [[97, 98], [32, 32, 99]], .str [100], .agg [.int .i64 0, .int .i64 0, .int .i64 0, .int .i64 0, .int .i64 1], .int .i64 1] (.tup [.agg [.int .i64 0, .slS [[97, 98]], .slS [[98]]], .agg [.int .i64 0, .int .i64 0], .bool true]) := by
  have h := p48d [[97, 98], [32, 32, 99]] 0 0 0 0 1 1 (by decide) (fun n => by
    match n with
    | 0 => decide
    | 1 => decide
    | n + 2 => simp) (by decide)
  rwa [show doD [[97, 98], [32, 32, 99]] 0 0 0 (cutR [[97, 98], [32, 32, 99]] 0 0 0 0 1) = ⟨true, 0, [[97, 98]], [[98]], 0, 0⟩ by kernel_rfl] at h
theorem k48b : Pure Try.prog 48 [.slS [[97, 98], [32, 32, 99]], .str [100], .agg [.int .i64 1, .int .i64 0, .int .i64 0, .int .i64 0, .int .i64 0], .int .i64 1] (.tup [.agg [.int .i64 0, .slS [[97, 98]], .slS []], .agg [.int .i64 0, .int .i64 2], .bool true]) := by
  have h := p48d [[97, 98], [32, 32, 99]] 1 0 0 0 0 1 (by decide) (fun n => by
    match n with
    | 0 => decide
    | 1 => decide
    | n + 2 => simp) (by decide)
  rwa [show doD [[97, 98], [32, 32, 99]] 1 0 0 (cutR [[97, 98], [32, 32, 99]] 1 0 0 0 0) = ⟨true, 0, [[97, 98]], [], 0, 2⟩ by kernel_rfl] at h
theorem k48c : Pure Try.prog 48 [.slS [[97, 98], [32, 32, 99]], .str [122, 122], .agg [.int .i64 0, .int .i64 0, .int .i64 0, .int .i64 0, .int .i64 0], .int .i64 1] (.tup [.agg [.int .i64 0, .slS [], .slS []], .agg [.int .i64 0, .int .i64 0], .bool false]) :=
  p48z [[97, 98], [32, 32, 99]] 0 0 0 0 0 1 (by decide) (fun n => by
    match n with
    | 0 => decide
    | 1 => decide
    | n + 2 => simp) (by decide)
theorem k47 : Pure Try.prog 47 [.slS [[97, 98], [32, 32, 99]], .agg [.int .i64 1, .int .i64 0, .int .i64 0, .int .i64 0, .int .i64 0]] (.agg [.int .i64 1, .slS [[97, 98]]]) := by
  have h := p47 [[97, 98], [32, 32, 99]] 1 0 0 0 0 (by decide) (fun n => by
    match n with
    | 0 => decide
    | 1 => decide
    | n + 2 => simp)
  rwa [show textL [[97, 98], [32, 32, 99]] 1 0 0 0 0 = [[97, 98]] by kernel_rfl] at h
theorem k30a : Pure Try.prog 30 [.slS [[98]], .slS [[98]]] (.bool true) := by
  have h := p30 [[98]] [[98]] (by decide)
  rwa [show decide (([[98]] : List (List UInt8)) = [[98]]) = true by decide] at h
theorem k30b : Pure Try.prog 30 [.slS [[97, 98]], .slS [[97, 98]]] (.bool true) := by
  have h := p30 [[97, 98]] [[97, 98]] (by decide)
  rwa [show decide (([[97, 98]] : List (List UInt8)) = [[97, 98]]) = true by decide] at h

set_option maxRecDepth 10000 in
set_option maxHeartbeats 8000000 in
theorem p45 : Pure Try.prog 45 [] (.bool true) := by
  refine Pure.ofT tab2_ok Try.func45 rfl rfl [.tmp 0] rfl (by decide) rfl ⟨79, 7, (J 7), (OO 7)⟩ (by kernel_rfl) (by kernel_rfl) ?_
  repeat' (first
    | refine allProp_T ?_
    | exact trivial
    | (refine URun.id ?_; first
        | refine URun.nil ?_
        | refine URun.many tabs2 rfl rfl (by kernel_rfl) ?_ ?_
        | (refine URun.toCall 48 rfl ?_; first
          | refine URun.call tabs2 rfl rfl rfl rfl k48a rfl rfl ?_ rfl ?_
          | refine URun.call tabs2 rfl rfl rfl rfl k48b rfl rfl ?_ rfl ?_
          | refine URun.call tabs2 rfl rfl rfl rfl k48c rfl rfl ?_ rfl ?_)
        | (refine URun.toCall 47 rfl ?_; first
          | refine URun.call tabs2 rfl rfl rfl rfl k47 rfl rfl ?_ rfl ?_)
        | (refine URun.toCall 30 rfl ?_; first
          | refine URun.call tabs2 rfl rfl rfl rfl k30a rfl rfl ?_ rfl ?_
          | refine URun.call tabs2 rfl rfl rfl rfl k30b rfl rfl ?_ rfl ?_)
        | refine URun.same tabs2 rfl rfl rfl ?_
        | refine URun.same2 tabs2 rfl rfl rfl ?_
        | refine URun.yes tabs2 rfl rfl rfl rfl ?_
        | refine URun.no tabs2 rfl rfl rfl rfl ?_
        | refine URun.yes tabs2 rfl rfl ⟨rfl, rfl⟩ rfl ?_
        | refine URun.no tabs2 rfl rfl ⟨rfl, rfl⟩ rfl ?_
        | refine URun.yes tabs2 rfl rfl (by decide) rfl ?_
        | refine URun.no tabs2 rfl rfl (by decide) rfl ?_
        | refine URun.split tabs2 rfl rfl rfl rfl (fun h => ?_) (fun h => ?_))
    | (refine TRun.id ?_; first
        | refine TRun.nil ?_
        | refine TRun.many rfl rfl (by kernel_rfl) ?_ ?_
        | (refine TRun.toCall 48 rfl ?_; first
          | refine TRun.call rfl rfl rfl rfl k48a rfl rfl ?_ rfl ?_
          | refine TRun.call rfl rfl rfl rfl k48b rfl rfl ?_ rfl ?_
          | refine TRun.call rfl rfl rfl rfl k48c rfl rfl ?_ rfl ?_)
        | (refine TRun.toCall 47 rfl ?_; first
          | refine TRun.call rfl rfl rfl rfl k47 rfl rfl ?_ rfl ?_)
        | (refine TRun.toCall 30 rfl ?_; first
          | refine TRun.call rfl rfl rfl rfl k30a rfl rfl ?_ rfl ?_
          | refine TRun.call rfl rfl rfl rfl k30b rfl rfl ?_ rfl ?_)
        | refine TRun.same rfl rfl rfl ?_
        | refine TRun.same2 rfl rfl rfl ?_
        | refine TRun.yes rfl rfl rfl rfl ?_
        | refine TRun.no rfl rfl rfl rfl ?_
        | refine TRun.yes rfl rfl ⟨rfl, rfl⟩ rfl ?_
        | refine TRun.no rfl rfl ⟨rfl, rfl⟩ rfl ?_
        | refine TRun.yes rfl rfl (by decide) rfl ?_
        | refine TRun.no rfl rfl (by decide) rfl ?_
        | refine TRun.split rfl rfl rfl rfl (fun h => ?_) (fun h => ?_))
    | (refine HoldsT.id ?_; first
        | refine HoldsT.seq ?_
        | refine HoldsT.regionU ?_
        | refine HoldsT.drawn tabs2 ?_
        | refine HoldsT.yes rfl ?_
        | refine HoldsT.no rfl ?_
        | refine HoldsT.cond rfl (fun h => ?_) (fun h => ?_)
        | refine HoldsT.block ?_
        | refine HoldsT.ret ?_
        | refine HoldsT.skip ?_
        | refine HoldsT.exit ?_)
    | (refine okTr_intro ?_; kernel_rfl)
    | exact absurd rfl h
    | refine allProp_C ?_ ?_
    | refine And.intro ?_ ?_
    | omega
    | (show _ < List.length _; omega)
    | exact rowlen_intro rfl
    | exact lenEq_intro rfl
    | exact Nat.le_of_ble_eq_true rfl
    | (simp only [AV.rowlenD, AV.rowlen, AV.ncells, mulSz, toN, Option.map_some, Option.map_none, cutL, List.length_take, List.length_drop, List.length_append, List.length_cons, List.length_nil, List.length_set, Option.some.injEq, Int.reduceToNat] <;> omega))
  exact FinC.te (y := .bool _) rfl rfl trivial rfl

end Go.Proofs.Ytefbgdnobnemkaa.AM
