/-
  Lines that are shifted, as a change.
-/
import Derived.Test.YtefbgdnobnemkaaF35
set_option linter.unusedSimpArgs false
set_option linter.unusedVariables false
set_option linter.unusedSectionVars false
namespace Go.Proofs.Ytefbgdnobnemkaa.AM
open Go Go.RowKit


set_option maxRecDepth 10000 in
set_option maxHeartbeats 8000000 in
theorem p90r (ls : List (List UInt8)) (fl tl n : Int) (hL : ls.length ≤ 1000000000) (hB : ∀ n : Nat, (ls.getD n []).length ≤ 1000000000000) (h0 : 0 ≤ fl) (h1 : fl ≤ tl) (h2 : tl < ls.length) (hn : 1 ≤ n) :
    Pure Try.prog 90 [.slS ls, .int .i64 fl, .int .i64 tl, .int .i64 n, .bool false] (ChR.av ⟨true, fl, midL ls fl (tl - fl + 1), eachL (fun i => shR (ls.getD i.toNat []) (min n 1024)) fl (tl - fl + 1).toNat⟩) := by
  have k106 := each108r ls (min n 1024) (fun i => shR (ls.getD i.toNat []) (min n 1024)) ls fl tl (by omega) (by omega) (by omega) (by omega) (fun i h1 h2 => p108r ls (min n 1024) i (by omega) (by omega) (by omega) (by omega) (by omega) hB)
  refine Pure.ofT tab2_ok Try.func90 rfl rfl [.cell 10 47, .tmp 11] rfl (by decide) rfl ⟨37, 6, (.node (.node (.node (.node (.node (.node (.leaf (.slS ls)) (J 0)) (J 1)) (J 2)) (.node (.node (.node (.leaf (.bool false)) (J 0)) (J 1)) (J 2))) (.node (.node (.node (.node (.leaf (.int .i64 tl)) (J 0)) (J 1)) (J 2)) (J 3))) (.node (.node (.node (.node (.node (.leaf (.int .i64 fl)) (J 0)) (J 1)) (J 2)) (J 3)) (.node (.node (.node (.node (.leaf (.int .i64 n)) (J 0)) (J 1)) (J 2)) (J 3)))), (OO 6)⟩ (by kernel_rfl) (by kernel_rfl) ?_
  repeat' (first
    | refine allProp_T ?_
    | exact trivial
    | (refine URun.id ?_; first
        | refine URun.nil ?_
        | refine URun.many tabs2 rfl rfl (by kernel_rfl) ?_ ?_
        | (refine URun.toCall 106 rfl ?_; first
          | refine URun.call tabs2 rfl rfl rfl rfl k106 rfl rfl ?_ rfl ?_)
        | refine URun.same tabs2 rfl rfl rfl ?_
        | refine URun.same2 tabs2 rfl rfl rfl ?_
        | refine URun.yes tabs2 rfl rfl (by omega) rfl ?_
        | refine URun.no tabs2 rfl rfl (by omega) rfl ?_
        | refine URun.split tabs2 rfl rfl rfl rfl (fun h => ?_) (fun h => ?_))
    | (refine TRun.id ?_; first
        | refine TRun.nil ?_
        | refine TRun.many rfl rfl (by kernel_rfl) ?_ ?_
        | (refine TRun.toCall 106 rfl ?_; first
          | refine TRun.call rfl rfl rfl rfl k106 rfl rfl ?_ rfl ?_)
        | refine TRun.same rfl rfl rfl ?_
        | refine TRun.same2 rfl rfl rfl ?_
        | refine TRun.yes rfl rfl (by omega) rfl ?_
        | refine TRun.no rfl rfl (by omega) rfl ?_
        | refine TRun.split rfl rfl rfl rfl (fun h => ?_) (fun h => ?_))
    | (refine HoldsT.id ?_; first
        | refine HoldsT.seq ?_
        | refine HoldsT.regionU ?_
        | refine HoldsT.drawn tabs2 ?_
        | refine HoldsT.yes rfl ?_
        | refine HoldsT.no rfl ?_
        | refine HoldsT.cond rfl (fun h => ?_) (fun h => ?_)
        | refine HoldsT.block ?_
        | refine HoldsT.ret ?_
        | refine HoldsT.skip ?_
        | refine HoldsT.exit ?_)
    | (refine okTr_intro ?_; kernel_rfl)
    | exact absurd rfl h
    | (show isBox _ _ = true; exact rfl)
    | refine allProp_C ?_ ?_
    | refine And.intro ?_ ?_
    | omega
    | (show _ < List.length _; omega)
    | exact rowlen_intro rfl
    | exact lenEq_intro rfl
    | exact Nat.le_of_ble_eq_true rfl
    | (simp only [AV.rowlenD, AV.rowlen, AV.ncells, mulSz, toN, Option.map_some, Option.map_none, cutL, List.length_take, List.length_drop, List.length_append, List.length_cons, List.length_nil, List.length_set, Option.some.injEq, Int.reduceToNat] <;> omega))
  all_goals exact FinC.t (y := .tup [.agg [.int .i64 _, .slS _, .slS _], .bool _]) rfl rfl ⟨⟨trivial, trivial, trivial, trivial⟩, trivial, trivial⟩ (AVle.rfl' rfl)

set_option maxRecDepth 10000 in
set_option maxHeartbeats 8000000 in
theorem p90l (ls : List (List UInt8)) (fl tl n : Int) (hL : ls.length ≤ 1000000000) (hB : ∀ n : Nat, (ls.getD n []).length ≤ 1000000000000) (h0 : 0 ≤ fl) (h1 : fl ≤ tl) (h2 : tl < ls.length) (hn : 1 ≤ n) :
    Pure Try.prog 90 [.slS ls, .int .i64 fl, .int .i64 tl, .int .i64 n, .bool true] (ChR.av ⟨true, fl, midL ls fl (tl - fl + 1), eachL (fun i => shLf (ls.getD i.toNat []) (min n 1024)) fl (tl - fl + 1).toNat⟩) := by
  have k106 := each108l ls (min n 1024) (fun i => shLf (ls.getD i.toNat []) (min n 1024)) ls fl tl (by omega) (by omega) (by omega) (by omega) (fun i h1 h2 => p108l ls (min n 1024) i (by omega) (by omega) (by omega) (by omega) (by omega) hB)
  refine Pure.ofT tab2_ok Try.func90 rfl rfl [.cell 10 47, .tmp 11] rfl (by decide) rfl ⟨37, 6, (.node (.node (.node (.node (.node (.node (.leaf (.slS ls)) (J 0)) (J 1)) (J 2)) (.node (.node (.node (.leaf (.bool true)) (J 0)) (J 1)) (J 2))) (.node (.node (.node (.node (.leaf (.int .i64 tl)) (J 0)) (J 1)) (J 2)) (J 3))) (.node (.node (.node (.node (.node (.leaf (.int .i64 fl)) (J 0)) (J 1)) (J 2)) (J 3)) (.node (.node (.node (.node (.leaf (.int .i64 n)) (J 0)) (J 1)) (J 2)) (J 3)))), (OO 6)⟩ (by kernel_rfl) (by kernel_rfl) ?_
  repeat' (first
    | refine allProp_T ?_
    | exact trivial
    | (refine URun.id ?_; first
        | refine URun.nil ?_
        | refine URun.many tabs2 rfl rfl (by kernel_rfl) ?_ ?_
        | (refine URun.toCall 106 rfl ?_; first
          | refine URun.call tabs2 rfl rfl rfl rfl k106 rfl rfl ?_ rfl ?_)
        | refine URun.same tabs2 rfl rfl rfl ?_
        | refine URun.same2 tabs2 rfl rfl rfl ?_
        | refine URun.yes tabs2 rfl rfl (by omega) rfl ?_
        | refine URun.no tabs2 rfl rfl (by omega) rfl ?_
        | refine URun.split tabs2 rfl rfl rfl rfl (fun h => ?_) (fun h => ?_))
    | (refine TRun.id ?_; first
        | refine TRun.nil ?_
        | refine TRun.many rfl rfl (by kernel_rfl) ?_ ?_
        | (refine TRun.toCall 106 rfl ?_; first
          | refine TRun.call rfl rfl rfl rfl k106 rfl rfl ?_ rfl ?_)
        | refine TRun.same rfl rfl rfl ?_
        | refine TRun.same2 rfl rfl rfl ?_
        | refine TRun.yes rfl rfl (by omega) rfl ?_
        | refine TRun.no rfl rfl (by omega) rfl ?_
        | refine TRun.split rfl rfl rfl rfl (fun h => ?_) (fun h => ?_))
    | (refine HoldsT.id ?_; first
        | refine HoldsT.seq ?_
        | refine HoldsT.regionU ?_
        | refine HoldsT.drawn tabs2 ?_
        | refine HoldsT.yes rfl ?_
        | refine HoldsT.no rfl ?_
        | refine HoldsT.cond rfl (fun h => ?_) (fun h => ?_)
        | refine HoldsT.block ?_
        | refine HoldsT.ret ?_
        | refine HoldsT.skip ?_
        | refine HoldsT.exit ?_)
    | (refine okTr_intro ?_; kernel_rfl)
    | exact absurd rfl h
    | (show isBox _ _ = true; exact rfl)
    | refine allProp_C ?_ ?_
    | refine And.intro ?_ ?_
    | omega
    | (show _ < List.length _; omega)
    | exact rowlen_intro rfl
    | exact lenEq_intro rfl
    | exact Nat.le_of_ble_eq_true rfl
    | (simp only [AV.rowlenD, AV.rowlen, AV.ncells, mulSz, toN, Option.map_some, Option.map_none, cutL, List.length_take, List.length_drop, List.length_append, List.length_cons, List.length_nil, List.length_set, Option.some.injEq, Int.reduceToNat] <;> omega))
  all_goals exact FinC.t (y := .tup [.agg [.int .i64 _, .slS _, .slS _], .bool _]) rfl rfl ⟨⟨trivial, trivial, trivial, trivial⟩, trivial, trivial⟩ (AVle.rfl' rfl)

end Go.Proofs.Ytefbgdnobnemkaa.AM
