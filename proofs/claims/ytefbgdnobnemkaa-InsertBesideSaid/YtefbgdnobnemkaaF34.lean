/-
  Spaces.
-/
import Derived.Test.YtefbgdnobnemkaaL2
import Derived.Test.YtefbgdnobnemkaaF27
set_option linter.unusedSimpArgs false
set_option linter.unusedVariables false
set_option linter.unusedSectionVars false
namespace Go.Proofs.Ytefbgdnobnemkaa.AM
open Go Go.RowKit

def spc (n : Int) : List UInt8 := List.replicate n.toNat 32
def sh68 (n i : Int) : TS := ⟨13, 4, (.node (.node (.node (.node (.leaf (.int .i64 n)) (J 0)) (.node (.leaf (.int .i64 i)) (J 0))) (J 2)) (.node (J 2) (.node (.node (.leaf (.str (spc i))) (J 0)) (J 1)))), (OO 4)⟩
theorem spc_succ {i : Int} (h : 0 ≤ i) : spc i ++ [32] = spc (i + 1) := by
  unfold spc
  rw [toNat_succ h, List.replicate_succ']
theorem spc_len {i : Int} : (spc i).length = i.toNat := by simp [spc]
set_option maxRecDepth 10000 in
set_option maxHeartbeats 8000000 in
theorem p68 (n : Int) (hn : n ≤ 1000000000) : Pure Try.prog 68 [.int .i64 n] (.str (spc n)) := by
  refine Pure.ofT tab2_ok Try.func68 rfl rfl [.tmp 2] rfl (by decide) rfl ⟨13, 4, (.node (.node (.node (.node (.leaf (.int .i64 n)) (J 0)) (J 1)) (J 2)) (J 3)), (OO 4)⟩ (by kernel_rfl) (by kernel_rfl) ?_
  repeat' (first
    | refine allProp_T ?_
    | exact trivial
    | (refine URun.id ?_; first
        | refine URun.nil ?_
        | refine URun.many tabs2 rfl rfl (by kernel_rfl) ?_ ?_
        | refine URun.same tabs2 rfl rfl rfl ?_
        | refine URun.same2 tabs2 rfl rfl rfl ?_
        | refine URun.split tabs2 rfl rfl rfl rfl (fun h => ?_) (fun h => ?_))
    | (refine TRun.id ?_; first
        | refine TRun.nil ?_
        | refine TRun.many rfl rfl (by kernel_rfl) ?_ ?_
        | refine TRun.same rfl rfl rfl ?_
        | refine TRun.same2 rfl rfl rfl ?_
        | refine TRun.split rfl rfl rfl rfl (fun h => ?_) (fun h => ?_))
    | (refine HoldsT.id ?_; first
        | refine HoldsT.seq ?_
        | refine HoldsT.regionU ?_
        | refine HoldsT.drawn tabs2 ?_
        | refine HoldsT.yes rfl ?_
        | refine HoldsT.no rfl ?_
        | refine HoldsT.cond rfl (fun h => ?_) (fun h => ?_)
        | refine HoldsT.block ?_
        | refine HoldsT.ret ?_
        | refine HoldsT.skip ?_
        | refine HoldsT.exit ?_)
    | (refine okTr_intro ?_; kernel_rfl)
    | exact absurd rfl h
    | refine allProp_C ?_ ?_
    | refine And.intro ?_ ?_
    | omega
    | (show _ < List.length _; omega)
    | exact rowlen_intro rfl
    | exact lenEq_intro rfl
    | exact Nat.le_of_ble_eq_true rfl
    | (simp only [AV.rowlenD, AV.rowlen, AV.ncells, mulSz, toN, Option.map_some, Option.map_none, cutL, List.length_take, List.length_drop, List.length_append, List.length_cons, List.length_nil, List.length_set, Option.some.injEq, Int.reduceToNat] <;> omega))
  refine HoldsT.loop (fun i : Int => sh68 n i) (fun i => (n - i).toNat) (fun i => 0 ≤ i ∧ (i ≤ n ∨ i = 0)) 0 ?_ ?_ (fun _ => by kernel_rfl) ?_
  · refine WeakT.of ?_ ?_ (by kernel_rfl)
    · repeat' (first | exact TTle.junk _ _ | exact TTle.same _ | refine TTle.node ?_ ?_ | refine TTle.leaf ?_ | exact AVle.junk _ | exact AVle.rfl' rfl | exact AVle.nilS | exact AVle.nilB)
    · repeat' (first | exact OOle.none _ _ | exact OOle.same _ | refine OOle.node ?_ ?_ | exact OOle.leaf _ | exact OOle.gone _)
  · exact ⟨by simp, .inr rfl⟩
  · intro i hi
    obtain ⟨h1, h2⟩ := hi
    have hl := spc_len (i := i)
    show HoldsT Try.prog _ (sh68 n i) _
    repeat' (first
      | refine allProp_T ?_
      | exact trivial
      | (refine URun.id ?_; first
          | refine URun.nil ?_
          | refine URun.many tabs2 rfl rfl (by kernel_rfl) ?_ ?_
          | refine URun.same tabs2 rfl rfl rfl ?_
          | refine URun.same2 tabs2 rfl rfl rfl ?_
          | refine URun.split tabs2 rfl rfl rfl rfl (fun h => ?_) (fun h => ?_))
      | (refine TRun.id ?_; first
          | refine TRun.nil ?_
          | refine TRun.many rfl rfl (by kernel_rfl) ?_ ?_
          | refine TRun.same rfl rfl rfl ?_
          | refine TRun.same2 rfl rfl rfl ?_
          | refine TRun.split rfl rfl rfl rfl (fun h => ?_) (fun h => ?_))
      | (refine HoldsT.id ?_; first
          | refine HoldsT.seq ?_
          | refine HoldsT.regionU ?_
          | refine HoldsT.drawn tabs2 ?_
          | refine HoldsT.yes rfl ?_
          | refine HoldsT.no rfl ?_
          | refine HoldsT.cond rfl (fun h => ?_) (fun h => ?_)
          | refine HoldsT.block ?_
          | refine HoldsT.ret ?_
          | refine HoldsT.skip ?_
          | refine HoldsT.exit ?_)
      | (refine okTr_intro ?_; kernel_rfl)
      | exact absurd rfl h
      | refine allProp_C ?_ ?_
      | refine And.intro ?_ ?_
      | omega
      | (show _ < List.length _; omega)
      | exact rowlen_intro rfl
      | exact lenEq_intro rfl
      | exact Nat.le_of_ble_eq_true rfl
      | (simp only [AV.rowlenD, AV.rowlen, AV.ncells, mulSz, toN, Option.map_some, Option.map_none, cutL, List.length_take, List.length_drop, List.length_append, List.length_cons, List.length_nil, List.length_set, Option.some.injEq, Int.reduceToNat] <;> omega))
    all_goals first
      | (refine ⟨i + 1, ⟨by omega, by omega, by omega⟩, ?_⟩
         refine WeakT.of ?_ ?_ (by kernel_rfl)
         · repeat' (first | exact TTle.junk _ _ | exact TTle.same _ | refine TTle.node ?_ ?_ | refine TTle.leaf ?_ | exact AVle.junk _ | exact AVle.rfl' rfl | exact AVle.nilS | exact AVle.nilB | exact AVle.rfl' (congrArg AV.str (spc_succ h1)))
         · repeat' (first | exact OOle.none _ _ | exact OOle.same _ | refine OOle.node ?_ ?_ | exact OOle.leaf _ | exact OOle.gone _))
      | (refine FinC.te (y := .str _) rfl rfl trivial (congrArg AV.str ?_)
         unfold spc
         congr 1
         omega)
theorem rep_spc (n : Int) : Lib.repeatL [32] n.toNat = spc n := by
  unfold spc
  induction n.toNat with
  | zero => rfl
  | succ k ih => simp only [Lib.repeatL, List.replicate_succ] at ih ⊢; rw [ih]; rfl
theorem p67s (n : Int) (h0 : 0 ≤ n) (h1 : n ≤ 1000000000) : Pure Try.prog 67 [.str [32], .int .i64 n] (.str (spc n)) := by
  have := p67 [32] n h0 (by simp; omega) (by omega)
  rwa [rep_spc] at this

end Go.Proofs.Ytefbgdnobnemkaa.AM
