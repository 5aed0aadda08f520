/-
  Rows that are joined.
-/
import Derived.Test.YtefbgdnobnemkaaT2
import Derived.Test.YtefbgdnobnemkaaF24
set_option linter.unusedSimpArgs false
set_option linter.unusedVariables false
set_option linter.unusedSectionVars false
namespace Go.Proofs.Ytefbgdnobnemkaa.AM
open Go Go.RowKit

section
variable {x y z : AV} {i : Int}
theorem lt3 (h : i < 3) : i < (([x, y, z].length / 1 : Nat) : Int) := by simp; exact h
theorem nlt3 (h : ¬ i < 3) : ¬ i < (([x, y, z].length / 1 : Nat) : Int) := by simp; omega
theorem rl3 (x y z : AV) : (AV.slG 1 [x, y, z]).rowlen = some ([x, y, z].length / 1) := by simp [AV.rowlen]
theorem nc3 (h : i.toNat < 3) : mulSz i.toNat 1 < (AV.slG 1 [x, y, z]).ncells := by simpa [AV.ncells, mulSz] using h
end
theorem repLen (n : Nat) (x : List UInt8) : (AV.slS (List.replicate n x)).rowlen = some n := by simp [AV.rowlen]
set_option maxRecDepth 10000 in
set_option maxHeartbeats 8000000 in
theorem own126 (n : Int) (h0 : 0 < n) (h1 : n ≤ 8000000000000) : PureOwn Try.prog 126 [.nilsl, .int .i64 n] (.slS []) 9 := by
  refine PureOwn.ofT Try.func126 rfl rfl (4) rfl ?_ ⟨27, 5, (.node (.node (.node (.node (.node (.leaf (.nilsl)) (J 0)) (J 1)) (J 2)) (J 3)) (.node (.node (.node (.node (.leaf (.int .i64 n)) (J 0)) (J 1)) (J 2)) (J 3))), (OO 5)⟩ (by kernel_rfl) (by kernel_rfl) ?_
  · exact flatS
  repeat' (first
    | refine allProp_T ?_
    | exact trivial
    | (refine URun.id ?_; first
        | refine URun.nil ?_
        | refine URun.capNil tabs2 rfl rfl rfl rfl rfl rfl rfl rfl rfl ?_
        | refine URun.zerosNil tabs2 rfl rfl rfl rfl rfl rfl rfl rfl rfl rfl rfl rfl rfl rfl ?_ rfl rfl rfl ?_
        | refine URun.shrink tabs2 rfl rfl rfl rfl rfl rfl rfl rfl rfl rfl rfl (repLen _ _) ?_ rfl rfl (by kernel_rfl) rfl rfl ?_
        | refine URun.val1 tabs2 rfl rfl rfl ?_ rfl ?_
        | refine URun.same tabs2 rfl rfl rfl ?_
        | refine URun.same2 tabs2 rfl rfl rfl ?_
        | refine URun.yes tabs2 rfl rfl (by omega) rfl ?_
        | refine URun.no tabs2 rfl rfl (by omega) rfl ?_
        | refine URun.split tabs2 rfl rfl rfl rfl (fun h => ?_) (fun h => ?_))
    | (refine TRun.id ?_; first
        | refine TRun.nil ?_
        | refine TRun.capNil rfl rfl rfl rfl rfl rfl rfl rfl rfl ?_
        | refine TRun.zerosNil rfl rfl rfl rfl rfl rfl rfl rfl rfl rfl rfl rfl rfl rfl ?_ rfl rfl rfl ?_
        | refine URun.shrink rfl rfl rfl rfl rfl rfl rfl rfl rfl rfl rfl (repLen _ _) ?_ rfl rfl (by kernel_rfl) rfl rfl ?_
        | refine TRun.same rfl rfl rfl ?_
        | refine TRun.same2 rfl rfl rfl ?_
        | refine TRun.yes rfl rfl (by omega) rfl ?_
        | refine TRun.no rfl rfl (by omega) rfl ?_
        | refine TRun.split rfl rfl rfl rfl (fun h => ?_) (fun h => ?_))
    | (refine HoldsT.id ?_; first
        | refine HoldsT.seq ?_
        | refine HoldsT.regionU ?_
        | refine HoldsT.drawn tabs2 ?_
        | refine HoldsT.yes rfl ?_
        | refine HoldsT.no rfl ?_
        | refine HoldsT.cond rfl (fun h => ?_) (fun h => ?_)
        | refine HoldsT.block ?_
        | refine HoldsT.ret ?_
        | refine HoldsT.skip ?_
        | refine HoldsT.exit ?_)
    | (refine okTr_intro ?_; kernel_rfl)
    | exact absurd rfl h
    | refine allProp_C ?_ ?_
    | refine And.intro ?_ ?_
    | omega
    | (show _ < List.length _; omega)
    | exact rowlen_intro rfl
    | exact lenEq_intro rfl
    | exact Nat.le_of_ble_eq_true rfl
    | (simp only [AV.rowlenD, AV.rowlen, AV.ncells, mulSz, toN, Option.map_some, Option.map_none, cutL, List.length_take, List.length_drop, List.length_append, List.length_cons, List.length_nil, List.length_set, Option.some.injEq, Int.reduceToNat] <;> omega))
  exact FinOwn.row rfl rfl rfl (by simp [AV.rowlen, AV.rowlenD])

set_option maxRecDepth 10000 in
set_option maxHeartbeats 8000000 in
theorem own115 (a b c : List (List UInt8)) (ha : a.length ≤ 1000000000000) (hb : b.length ≤ 1000000000000) (hc : c.length ≤ 1000000000000) (h0 : 0 < (a.length : Int) + b.length + c.length) : PureOwn Try.prog 115 [.slG 1 [.slS a, .slS b, .slS c]] (.slS (a ++ b ++ c)) 9 := by
  refine PureOwn.ofT Try.func115 rfl rfl (2) rfl ?_ ⟨36, 6, (.node (.node (.node (.node (.node (.node (.leaf (.slG 1 [.slS a, .slS b, .slS c])) (J 0)) (J 1)) (J 2)) (J 3)) (J 4)) (J 5)), (OO 6)⟩ (by kernel_rfl) (by kernel_rfl) ?_
  · exact flatS
  repeat' (first
    | refine allProp_T ?_
    | exact trivial
    | (refine URun.id ?_; first
        | refine URun.nil ?_
        | refine URun.many tabs2 rfl rfl (by kernel_rfl) ?_ ?_
        | (refine URun.toCall 126 rfl ?_; refine URun.own rfl rfl rfl rfl (own126 _ (by omega) (by omega)) rfl rfl ?_ rfl (by kernel_rfl) rfl rfl ?_)
        | refine URun.same tabs2 rfl rfl rfl ?_
        | refine URun.same2 tabs2 rfl rfl rfl ?_
        | refine URun.yes tabs2 rfl rfl (lt3 (by omega)) rfl ?_
        | refine URun.no tabs2 rfl rfl (lt3 (by omega)) rfl ?_
        | refine URun.yes tabs2 rfl rfl (nlt3 (by omega)) rfl ?_
        | refine URun.no tabs2 rfl rfl (nlt3 (by omega)) rfl ?_
        | refine URun.yes tabs2 rfl rfl (by omega) rfl ?_
        | refine URun.no tabs2 rfl rfl (by omega) rfl ?_
        | refine URun.split tabs2 rfl rfl rfl rfl (fun h => ?_) (fun h => ?_))
    | (refine TRun.id ?_; first
        | refine TRun.nil ?_
        | refine TRun.many rfl rfl (by kernel_rfl) ?_ ?_
        | refine TRun.same rfl rfl rfl ?_
        | refine TRun.same2 rfl rfl rfl ?_
        | refine TRun.yes rfl rfl (lt3 (by omega)) rfl ?_
        | refine TRun.no rfl rfl (lt3 (by omega)) rfl ?_
        | refine TRun.yes rfl rfl (nlt3 (by omega)) rfl ?_
        | refine TRun.no rfl rfl (nlt3 (by omega)) rfl ?_
        | refine TRun.yes rfl rfl (by omega) rfl ?_
        | refine TRun.no rfl rfl (by omega) rfl ?_
        | refine TRun.split rfl rfl rfl rfl (fun h => ?_) (fun h => ?_))
    | (refine HoldsT.id ?_; first
        | refine HoldsT.seq ?_
        | refine HoldsT.regionU ?_
        | refine HoldsT.drawn tabs2 ?_
        | refine HoldsT.yes rfl ?_
        | refine HoldsT.no rfl ?_
        | refine HoldsT.cond rfl (fun h => ?_) (fun h => ?_)
        | refine HoldsT.block ?_
        | refine HoldsT.ret ?_
        | refine HoldsT.skip ?_
        | refine HoldsT.exit ?_)
    | refine HoldsT.rounds 4 ?_
    | refine HoldsT.round ?_
    | (refine okTr_intro ?_; kernel_rfl)
    | exact absurd rfl h
    | exact rl3 _ _ _
    | exact nc3 (by omega)
    | refine allProp_C ?_ ?_
    | refine And.intro ?_ ?_
    | omega
    | (show _ < List.length _; omega)
    | exact rowlen_intro rfl
    | exact lenEq_intro rfl
    | exact Nat.le_of_ble_eq_true rfl
    | (simp only [AV.rowlenD, AV.rowlen, AV.ncells, mulSz, toN, Option.map_some, Option.map_none, cutL, List.length_take, List.length_drop, List.length_append, List.length_cons, List.length_nil, List.length_set, Option.some.injEq, Int.reduceToNat] <;> omega))
  exact FinOwn.row (c' := .slS _) rfl rfl rfl (by simp [AV.rowlen, AV.rowlenD, Nat.add_assoc])

end Go.Proofs.Ytefbgdnobnemkaa.AM
