/-
  Letters, small and capital.
-/
import Derived.Test.YtefbgdnobnemkaaF33
import Derived.Test.YtefbgdnobnemkaaF34
set_option linter.unusedSimpArgs false
set_option linter.unusedVariables false
set_option linter.unusedSectionVars false
namespace Go.Proofs.Ytefbgdnobnemkaa.AM
open Go Go.RowKit

def smallK (k : Int) : Bool := decide (97 ≤ k ∧ k ≤ 122)
def capK (k : Int) : Bool := decide (65 ≤ k ∧ k ≤ 90)
def caseK (up down : Bool) (k : Int) : Int := if up = true ∧ smallK k = true then k - 32 else if down = true ∧ capK k = true then k + 32 else k
set_option maxRecDepth 10000 in
set_option maxHeartbeats 8000000 in
theorem p110 (k : Int) : Pure Try.prog 110 [.int .u8 k] (.bool (smallK k)) := by
  refine Pure.ofT tab2_ok Try.func110 rfl rfl [.tmp 2] rfl (by decide) rfl ⟨9, 4, (.node (.node (.node (.node (.leaf (.int .u8 k)) (J 0)) (J 1)) (J 2)) (J 3)), (OO 4)⟩ (by kernel_rfl) (by kernel_rfl) ?_
  repeat' (first
    | refine allProp_T ?_
    | exact trivial
    | (refine URun.id ?_; first
        | refine URun.nil ?_
        | refine URun.many tabs2 rfl rfl (by kernel_rfl) ?_ ?_
        | refine URun.same tabs2 rfl rfl rfl ?_
        | refine URun.same2 tabs2 rfl rfl rfl ?_
        | refine URun.split tabs2 rfl rfl rfl rfl (fun h => ?_) (fun h => ?_))
    | (refine TRun.id ?_; first
        | refine TRun.nil ?_
        | refine TRun.many rfl rfl (by kernel_rfl) ?_ ?_
        | refine TRun.same rfl rfl rfl ?_
        | refine TRun.same2 rfl rfl rfl ?_
        | refine TRun.split rfl rfl rfl rfl (fun h => ?_) (fun h => ?_))
    | (refine HoldsT.id ?_; first
        | refine HoldsT.seq ?_
        | refine HoldsT.regionU ?_
        | refine HoldsT.drawn tabs2 ?_
        | refine HoldsT.yes rfl ?_
        | refine HoldsT.no rfl ?_
        | refine HoldsT.cond rfl (fun h => ?_) (fun h => ?_)
        | refine HoldsT.block ?_
        | refine HoldsT.ret ?_
        | refine HoldsT.skip ?_
        | refine HoldsT.exit ?_)
    | (refine okTr_intro ?_; kernel_rfl)
    | exact absurd rfl h
    | refine allProp_C ?_ ?_
    | refine And.intro ?_ ?_
    | omega
    | (show _ < List.length _; omega)
    | exact rowlen_intro rfl
    | exact lenEq_intro rfl
    | exact Nat.le_of_ble_eq_true rfl
    | (simp only [AV.rowlenD, AV.rowlen, AV.ncells, mulSz, toN, Option.map_some, Option.map_none, cutL, List.length_take, List.length_drop, List.length_append, List.length_cons, List.length_nil, List.length_set, Option.some.injEq, Int.reduceToNat] <;> omega))
  all_goals refine FinC.te (y := .bool _) rfl rfl trivial (congrArg AV.bool ?_)
  all_goals (unfold smallK; first | exact (decide_eq_true (by omega)).symm | exact (decide_eq_false (by omega)).symm)
set_option maxRecDepth 10000 in
set_option maxHeartbeats 8000000 in
theorem p111 (k : Int) : Pure Try.prog 111 [.int .u8 k] (.bool (capK k)) := by
  refine Pure.ofT tab2_ok Try.func111 rfl rfl [.tmp 2] rfl (by decide) rfl ⟨9, 4, (.node (.node (.node (.node (.leaf (.int .u8 k)) (J 0)) (J 1)) (J 2)) (J 3)), (OO 4)⟩ (by kernel_rfl) (by kernel_rfl) ?_
  repeat' (first
    | refine allProp_T ?_
    | exact trivial
    | (refine URun.id ?_; first
        | refine URun.nil ?_
        | refine URun.many tabs2 rfl rfl (by kernel_rfl) ?_ ?_
        | refine URun.same tabs2 rfl rfl rfl ?_
        | refine URun.same2 tabs2 rfl rfl rfl ?_
        | refine URun.split tabs2 rfl rfl rfl rfl (fun h => ?_) (fun h => ?_))
    | (refine TRun.id ?_; first
        | refine TRun.nil ?_
        | refine TRun.many rfl rfl (by kernel_rfl) ?_ ?_
        | refine TRun.same rfl rfl rfl ?_
        | refine TRun.same2 rfl rfl rfl ?_
        | refine TRun.split rfl rfl rfl rfl (fun h => ?_) (fun h => ?_))
    | (refine HoldsT.id ?_; first
        | refine HoldsT.seq ?_
        | refine HoldsT.regionU ?_
        | refine HoldsT.drawn tabs2 ?_
        | refine HoldsT.yes rfl ?_
        | refine HoldsT.no rfl ?_
        | refine HoldsT.cond rfl (fun h => ?_) (fun h => ?_)
        | refine HoldsT.block ?_
        | refine HoldsT.ret ?_
        | refine HoldsT.skip ?_
        | refine HoldsT.exit ?_)
    | (refine okTr_intro ?_; kernel_rfl)
    | exact absurd rfl h
    | refine allProp_C ?_ ?_
    | refine And.intro ?_ ?_
    | omega
    | (show _ < List.length _; omega)
    | exact rowlen_intro rfl
    | exact lenEq_intro rfl
    | exact Nat.le_of_ble_eq_true rfl
    | (simp only [AV.rowlenD, AV.rowlen, AV.ncells, mulSz, toN, Option.map_some, Option.map_none, cutL, List.length_take, List.length_drop, List.length_append, List.length_cons, List.length_nil, List.length_set, Option.some.injEq, Int.reduceToNat] <;> omega))
  all_goals refine FinC.te (y := .bool _) rfl rfl trivial (congrArg AV.bool ?_)
  all_goals (unfold capK; first | exact (decide_eq_true (by omega)).symm | exact (decide_eq_false (by omega)).symm)

set_option maxRecDepth 10000 in
set_option maxHeartbeats 8000000 in
theorem p113_tf (k : Int) (hk : inK .u8 k) : Pure Try.prog 113 [.int .u8 k, .cptr (.agg [.bool true]) 0, .cptr (.agg [.fn 110 []]) 0, .cptr (.agg [.bool false]) 0, .cptr (.agg [.fn 111 []]) 0] (.int .u8 (caseK true false k)) := by
  have hk0 : 0 ≤ k ∧ k ≤ 255 := hk
  refine Pure.ofT tab2_ok Try.func113 rfl rfl [.tmp 6] rfl (by decide) rfl ⟨28, 5, (.node (.node (.node (.node (.node (.leaf (.int .u8 k)) (J 0)) (J 1)) (.node (.node (.leaf (.cptr (.agg [.fn 111 []]) 0)) (J 0)) (J 1))) (.node (.node (.node (.leaf (.cptr (.agg [.fn 110 []]) 0)) (J 0)) (J 1)) (J 2))) (.node (.node (.node (.node (.leaf (.cptr (.agg [.bool true]) 0)) (J 0)) (J 1)) (J 2)) (.node (.node (.node (.leaf (.cptr (.agg [.bool false]) 0)) (J 0)) (J 1)) (J 2)))), (OO 5)⟩ (by kernel_rfl) (by kernel_rfl) ?_
  repeat' (first
    | refine allProp_T ?_
    | exact trivial
    | (refine URun.id ?_; first
        | refine URun.nil ?_
        | refine URun.many tabs2 rfl rfl (by kernel_rfl) ?_ ?_
        | (refine URun.toCall 110 rfl ?_; first
          | refine URun.callB tabs2 rfl rfl rfl rfl (p110 _) rfl rfl ?_ rfl rfl (fun h => ?_) (fun h => ?_))
        | (refine URun.toCall 111 rfl ?_; first
          | refine URun.callB tabs2 rfl rfl rfl rfl (p111 _) rfl rfl ?_ rfl rfl (fun h => ?_) (fun h => ?_))
        | refine URun.same tabs2 rfl rfl rfl ?_
        | refine URun.same2 tabs2 rfl rfl rfl ?_
        | refine URun.split tabs2 rfl rfl rfl rfl (fun h => ?_) (fun h => ?_))
    | (refine TRun.id ?_; first
        | refine TRun.nil ?_
        | refine TRun.many rfl rfl (by kernel_rfl) ?_ ?_
        | (refine TRun.toCall 110 rfl ?_; first
          | refine TRun.callB rfl rfl rfl rfl (p110 _) rfl rfl ?_ rfl rfl (fun h => ?_) (fun h => ?_))
        | (refine TRun.toCall 111 rfl ?_; first
          | refine TRun.callB rfl rfl rfl rfl (p111 _) rfl rfl ?_ rfl rfl (fun h => ?_) (fun h => ?_))
        | refine TRun.same rfl rfl rfl ?_
        | refine TRun.same2 rfl rfl rfl ?_
        | refine TRun.split rfl rfl rfl rfl (fun h => ?_) (fun h => ?_))
    | (refine HoldsT.id ?_; first
        | refine HoldsT.seq ?_
        | refine HoldsT.regionU ?_
        | refine HoldsT.drawn tabs2 ?_
        | refine HoldsT.yes rfl ?_
        | refine HoldsT.no rfl ?_
        | refine HoldsT.cond rfl (fun h => ?_) (fun h => ?_)
        | refine HoldsT.block ?_
        | refine HoldsT.ret ?_
        | refine HoldsT.skip ?_
        | refine HoldsT.exit ?_)
    | (refine okTr_intro ?_; kernel_rfl)
    | exact absurd rfl h
    | (have h5 := of_decide_eq_true h; omega)
    | refine allProp_C ?_ ?_
    | refine And.intro ?_ ?_
    | omega
    | (show _ < List.length _; omega)
    | exact rowlen_intro rfl
    | exact lenEq_intro rfl
    | exact Nat.le_of_ble_eq_true rfl
    | (simp only [AV.rowlenD, AV.rowlen, AV.ncells, mulSz, toN, Option.map_some, Option.map_none, cutL, List.length_take, List.length_drop, List.length_append, List.length_cons, List.length_nil, List.length_set, Option.some.injEq, Int.reduceToNat] <;> omega))
  all_goals refine FinC.te (y := .int .u8 _) rfl rfl trivial (congrArg (AV.int .u8) ?_)
  all_goals (unfold caseK; simp only [*, and_self, and_true, true_and, and_false, false_and, if_true, if_false, Bool.false_eq_true] <;> omega)

set_option maxRecDepth 10000 in
set_option maxHeartbeats 8000000 in
theorem p113_ft (k : Int) (hk : inK .u8 k) : Pure Try.prog 113 [.int .u8 k, .cptr (.agg [.bool false]) 0, .cptr (.agg [.fn 110 []]) 0, .cptr (.agg [.bool true]) 0, .cptr (.agg [.fn 111 []]) 0] (.int .u8 (caseK false true k)) := by
  have hk0 : 0 ≤ k ∧ k ≤ 255 := hk
  refine Pure.ofT tab2_ok Try.func113 rfl rfl [.tmp 6] rfl (by decide) rfl ⟨28, 5, (.node (.node (.node (.node (.node (.leaf (.int .u8 k)) (J 0)) (J 1)) (.node (.node (.leaf (.cptr (.agg [.fn 111 []]) 0)) (J 0)) (J 1))) (.node (.node (.node (.leaf (.cptr (.agg [.fn 110 []]) 0)) (J 0)) (J 1)) (J 2))) (.node (.node (.node (.node (.leaf (.cptr (.agg [.bool false]) 0)) (J 0)) (J 1)) (J 2)) (.node (.node (.node (.leaf (.cptr (.agg [.bool true]) 0)) (J 0)) (J 1)) (J 2)))), (OO 5)⟩ (by kernel_rfl) (by kernel_rfl) ?_
  repeat' (first
    | refine allProp_T ?_
    | exact trivial
    | (refine URun.id ?_; first
        | refine URun.nil ?_
        | refine URun.many tabs2 rfl rfl (by kernel_rfl) ?_ ?_
        | (refine URun.toCall 110 rfl ?_; first
          | refine URun.callB tabs2 rfl rfl rfl rfl (p110 _) rfl rfl ?_ rfl rfl (fun h => ?_) (fun h => ?_))
        | (refine URun.toCall 111 rfl ?_; first
          | refine URun.callB tabs2 rfl rfl rfl rfl (p111 _) rfl rfl ?_ rfl rfl (fun h => ?_) (fun h => ?_))
        | refine URun.same tabs2 rfl rfl rfl ?_
        | refine URun.same2 tabs2 rfl rfl rfl ?_
        | refine URun.split tabs2 rfl rfl rfl rfl (fun h => ?_) (fun h => ?_))
    | (refine TRun.id ?_; first
        | refine TRun.nil ?_
        | refine TRun.many rfl rfl (by kernel_rfl) ?_ ?_
        | (refine TRun.toCall 110 rfl ?_; first
          | refine TRun.callB rfl rfl rfl rfl (p110 _) rfl rfl ?_ rfl rfl (fun h => ?_) (fun h => ?_))
        | (refine TRun.toCall 111 rfl ?_; first
          | refine TRun.callB rfl rfl rfl rfl (p111 _) rfl rfl ?_ rfl rfl (fun h => ?_) (fun h => ?_))
        | refine TRun.same rfl rfl rfl ?_
        | refine TRun.same2 rfl rfl rfl ?_
        | refine TRun.split rfl rfl rfl rfl (fun h => ?_) (fun h => ?_))
    | (refine HoldsT.id ?_; first
        | refine HoldsT.seq ?_
        | refine HoldsT.regionU ?_
        | refine HoldsT.drawn tabs2 ?_
        | refine HoldsT.yes rfl ?_
        | refine HoldsT.no rfl ?_
        | refine HoldsT.cond rfl (fun h => ?_) (fun h => ?_)
        | refine HoldsT.block ?_
        | refine HoldsT.ret ?_
        | refine HoldsT.skip ?_
        | refine HoldsT.exit ?_)
    | (refine okTr_intro ?_; kernel_rfl)
    | exact absurd rfl h
    | (have h5 := of_decide_eq_true h; omega)
    | refine allProp_C ?_ ?_
    | refine And.intro ?_ ?_
    | omega
    | (show _ < List.length _; omega)
    | exact rowlen_intro rfl
    | exact lenEq_intro rfl
    | exact Nat.le_of_ble_eq_true rfl
    | (simp only [AV.rowlenD, AV.rowlen, AV.ncells, mulSz, toN, Option.map_some, Option.map_none, cutL, List.length_take, List.length_drop, List.length_append, List.length_cons, List.length_nil, List.length_set, Option.some.injEq, Int.reduceToNat] <;> omega))
  all_goals refine FinC.te (y := .int .u8 _) rfl rfl trivial (congrArg (AV.int .u8) ?_)
  all_goals (unfold caseK; simp only [*, and_self, and_true, true_and, and_false, false_and, if_true, if_false, Bool.false_eq_true] <;> omega)

set_option maxRecDepth 10000 in
set_option maxHeartbeats 8000000 in
theorem p113_tt (k : Int) (hk : inK .u8 k) : Pure Try.prog 113 [.int .u8 k, .cptr (.agg [.bool true]) 0, .cptr (.agg [.fn 110 []]) 0, .cptr (.agg [.bool true]) 0, .cptr (.agg [.fn 111 []]) 0] (.int .u8 (caseK true true k)) := by
  have hk0 : 0 ≤ k ∧ k ≤ 255 := hk
  refine Pure.ofT tab2_ok Try.func113 rfl rfl [.tmp 6] rfl (by decide) rfl ⟨28, 5, (.node (.node (.node (.node (.node (.leaf (.int .u8 k)) (J 0)) (J 1)) (.node (.node (.leaf (.cptr (.agg [.fn 111 []]) 0)) (J 0)) (J 1))) (.node (.node (.node (.leaf (.cptr (.agg [.fn 110 []]) 0)) (J 0)) (J 1)) (J 2))) (.node (.node (.node (.node (.leaf (.cptr (.agg [.bool true]) 0)) (J 0)) (J 1)) (J 2)) (.node (.node (.node (.leaf (.cptr (.agg [.bool true]) 0)) (J 0)) (J 1)) (J 2)))), (OO 5)⟩ (by kernel_rfl) (by kernel_rfl) ?_
  repeat' (first
    | refine allProp_T ?_
    | exact trivial
    | (refine URun.id ?_; first
        | refine URun.nil ?_
        | refine URun.many tabs2 rfl rfl (by kernel_rfl) ?_ ?_
        | (refine URun.toCall 110 rfl ?_; first
          | refine URun.callB tabs2 rfl rfl rfl rfl (p110 _) rfl rfl ?_ rfl rfl (fun h => ?_) (fun h => ?_))
        | (refine URun.toCall 111 rfl ?_; first
          | refine URun.callB tabs2 rfl rfl rfl rfl (p111 _) rfl rfl ?_ rfl rfl (fun h => ?_) (fun h => ?_))
        | refine URun.same tabs2 rfl rfl rfl ?_
        | refine URun.same2 tabs2 rfl rfl rfl ?_
        | refine URun.split tabs2 rfl rfl rfl rfl (fun h => ?_) (fun h => ?_))
    | (refine TRun.id ?_; first
        | refine TRun.nil ?_
        | refine TRun.many rfl rfl (by kernel_rfl) ?_ ?_
        | (refine TRun.toCall 110 rfl ?_; first
          | refine TRun.callB rfl rfl rfl rfl (p110 _) rfl rfl ?_ rfl rfl (fun h => ?_) (fun h => ?_))
        | (refine TRun.toCall 111 rfl ?_; first
          | refine TRun.callB rfl rfl rfl rfl (p111 _) rfl rfl ?_ rfl rfl (fun h => ?_) (fun h => ?_))
        | refine TRun.same rfl rfl rfl ?_
        | refine TRun.same2 rfl rfl rfl ?_
        | refine TRun.split rfl rfl rfl rfl (fun h => ?_) (fun h => ?_))
    | (refine HoldsT.id ?_; first
        | refine HoldsT.seq ?_
        | refine HoldsT.regionU ?_
        | refine HoldsT.drawn tabs2 ?_
        | refine HoldsT.yes rfl ?_
        | refine HoldsT.no rfl ?_
        | refine HoldsT.cond rfl (fun h => ?_) (fun h => ?_)
        | refine HoldsT.block ?_
        | refine HoldsT.ret ?_
        | refine HoldsT.skip ?_
        | refine HoldsT.exit ?_)
    | (refine okTr_intro ?_; kernel_rfl)
    | exact absurd rfl h
    | (have h5 := of_decide_eq_true h; omega)
    | refine allProp_C ?_ ?_
    | refine And.intro ?_ ?_
    | omega
    | (show _ < List.length _; omega)
    | exact rowlen_intro rfl
    | exact lenEq_intro rfl
    | exact Nat.le_of_ble_eq_true rfl
    | (simp only [AV.rowlenD, AV.rowlen, AV.ncells, mulSz, toN, Option.map_some, Option.map_none, cutL, List.length_take, List.length_drop, List.length_append, List.length_cons, List.length_nil, List.length_set, Option.some.injEq, Int.reduceToNat] <;> omega))
  all_goals refine FinC.te (y := .int .u8 _) rfl rfl trivial (congrArg (AV.int .u8) ?_)
  all_goals (unfold caseK; simp only [*, and_self, and_true, true_and, and_false, false_and, if_true, if_false, Bool.false_eq_true] <;> omega)

end Go.Proofs.Ytefbgdnobnemkaa.AM
