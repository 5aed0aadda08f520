/-
  Edits: the chapter's own example.
-/
import Derived.Test.YtefbgdnobnemkaaDoorD3
set_option linter.unusedSimpArgs false
set_option linter.unusedVariables false
set_option linter.unusedSectionVars false
namespace Go.Proofs.YtefbgdnobnemkaaDoor.AM
open Go Go.RowKit

theorem rowN {sz n : Nat} {cs : List AV} (hs : sz = 1) (hc : cs.length = n) (hn : n = n) : (AV.slG sz cs).rowlen = some n := by subst hs hc; simp [AV.rowlen]
theorem k19 : Pure Tryd.prog 19 [.slS [[97], [98]], .int .i64 0, .int .i64 2] (.tup [.agg [.int .i64 0, .slS [[97], [98]], .slS [[97, 32, 98]]], .int .i64 1, .bool true]) := by
  have h := q19 [[97], [98]] 0 2 (by decide) (fun n => by
    match n with
    | 0 => decide
    | 1 => decide
    | n + 2 => simp)
  rwa [show joinR [[97], [98]] 0 2 = ⟨true, 0, [[97], [98]], [[97, 32, 98]], 1⟩ by kernel_rfl] at h
theorem k24 : Pure Tryd.prog 24 [.slS [[97], [98]], .agg [.int .i64 0, .int .i64 0, .int .i64 0, .int .i64 1, .int .i64 0]] (.tup [.agg [.int .i64 0, .slS [[97], [98]], .slS [[98]]], .bool true]) := by
  have h := p89 [[97], [98]] 0 0 0 1 0 (by decide) (fun n => by
    match n with
    | 0 => decide
    | 1 => decide
    | n + 2 => simp)
  rwa [show cutR [[97], [98]] 0 0 0 1 0 = ⟨true, 0, [[97], [98]], [[98]]⟩ by kernel_rfl] at h
theorem k13 : Pure Tryd.prog 13 [.slS [[97], [98]], .agg [.int .i64 0, .int .i64 1], .slS [[120], [121]]] (.tup [.agg [.int .i64 0, .slS [[97]], .slS [[97, 120], [121]]], .agg [.int .i64 1, .int .i64 1], .bool true]) :=
  p60 [[97], [98]] [[120], [121]] 0 1 (by decide) (by decide) (fun n => by
    match n with
    | 0 => decide
    | 1 => decide
    | n + 2 => simp) (fun n => by
    match n with
    | 0 => decide
    | 1 => decide
    | n + 2 => simp) (by decide) (by decide)
theorem k16 : Pure Tryd.prog 16 [.slS [[97], [98]], .agg [.int .i64 0, .int .i64 0], .int .u8 122, .int .i64 2] (.tup [.agg [.int .i64 0, .slS [], .slS []], .bool false]) := by
  have h := q16 [[97], [98]] 0 0 122 2 (by decide) (fun n => by
    match n with
    | 0 => decide
    | 1 => decide
    | n + 2 => simp) ⟨by decide, by decide⟩
  rwa [show overR [[97], [98]] 0 0 122 2 = chNo by kernel_rfl] at h
theorem k30 : Pure Tryd.prog 30 [.agg [.int .i64 0, .slS [[97], [98]], .slS [[97, 32, 98]]], .agg [.int .i64 0, .slS [[97], [98]], .slS [[97, 32, 98]]]] (.bool true) := by
  have h := p37 0 0 [[97], [98]] [[97, 32, 98]] [[97], [98]] [[97, 32, 98]] (by decide) (by decide)
  rwa [decide_eq_true rfl, decide_eq_true rfl, decide_eq_true rfl] at h
theorem k28 : Pure Tryd.prog 28 [.slS [[98]], .slS [[98]]] (.bool true) := by
  have h := p30 [[98]] [[98]] (by decide)
  rwa [decide_eq_true rfl] at h
set_option maxRecDepth 10000 in
set_option maxHeartbeats 8000000 in
theorem q9 : Pure Tryd.prog 9 [] (.bool true) := by
  refine Pure.ofT tab2_ok Tryd.func9 rfl rfl [.tmp 0] rfl (by decide) rfl ⟨79, 7, (J 7), (OO 7)⟩ (by kernel_rfl) (by kernel_rfl) ?_
  repeat' (first
    | refine allProp_T ?_
    | exact trivial
    | (refine URun.id ?_; first
        | refine URun.nil ?_
        | refine URun.many tabs2 rfl rfl (by kernel_rfl) ?_ ?_
        | (refine URun.toCall 19 rfl ?_; first
          | refine URun.call tabs2 rfl rfl rfl rfl k19 rfl rfl ?_ rfl ?_)
        | (refine URun.toCall 24 rfl ?_; first
          | refine URun.call tabs2 rfl rfl rfl rfl k24 rfl rfl ?_ rfl ?_)
        | (refine URun.toCall 13 rfl ?_; first
          | refine URun.call tabs2 rfl rfl rfl rfl k13 rfl rfl ?_ rfl ?_)
        | (refine URun.toCall 16 rfl ?_; first
          | refine URun.call tabs2 rfl rfl rfl rfl k16 rfl rfl ?_ rfl ?_)
        | (refine URun.toCall 30 rfl ?_; first
          | refine URun.call tabs2 rfl rfl rfl rfl k30 rfl rfl ?_ rfl ?_)
        | (refine URun.toCall 28 rfl ?_; first
          | refine URun.call tabs2 rfl rfl rfl rfl k28 rfl rfl ?_ rfl ?_)
        | refine URun.same tabs2 rfl rfl rfl ?_
        | refine URun.same2 tabs2 rfl rfl rfl ?_
        | refine URun.yes tabs2 rfl rfl rfl rfl ?_
        | refine URun.no tabs2 rfl rfl rfl rfl ?_
        | refine URun.yes tabs2 rfl rfl ⟨rfl, rfl⟩ rfl ?_
        | refine URun.no tabs2 rfl rfl ⟨rfl, rfl⟩ rfl ?_
        | refine URun.yes tabs2 rfl rfl (by decide) rfl ?_
        | refine URun.no tabs2 rfl rfl (by decide) rfl ?_
        | refine URun.split tabs2 rfl rfl rfl rfl (fun h => ?_) (fun h => ?_))
    | (refine TRun.id ?_; first
        | refine TRun.nil ?_
        | refine TRun.many rfl rfl (by kernel_rfl) ?_ ?_
        | (refine TRun.toCall 19 rfl ?_; first
          | refine TRun.call rfl rfl rfl rfl k19 rfl rfl ?_ rfl ?_)
        | (refine TRun.toCall 24 rfl ?_; first
          | refine TRun.call rfl rfl rfl rfl k24 rfl rfl ?_ rfl ?_)
        | (refine TRun.toCall 13 rfl ?_; first
          | refine TRun.call rfl rfl rfl rfl k13 rfl rfl ?_ rfl ?_)
        | (refine TRun.toCall 16 rfl ?_; first
          | refine TRun.call rfl rfl rfl rfl k16 rfl rfl ?_ rfl ?_)
        | (refine TRun.toCall 30 rfl ?_; first
          | refine TRun.call rfl rfl rfl rfl k30 rfl rfl ?_ rfl ?_)
        | (refine TRun.toCall 28 rfl ?_; first
          | refine TRun.call rfl rfl rfl rfl k28 rfl rfl ?_ rfl ?_)
        | refine TRun.same rfl rfl rfl ?_
        | refine TRun.same2 rfl rfl rfl ?_
        | refine TRun.yes rfl rfl rfl rfl ?_
        | refine TRun.no rfl rfl rfl rfl ?_
        | refine TRun.yes rfl rfl ⟨rfl, rfl⟩ rfl ?_
        | refine TRun.no rfl rfl ⟨rfl, rfl⟩ rfl ?_
        | refine TRun.yes rfl rfl (by decide) rfl ?_
        | refine TRun.no rfl rfl (by decide) rfl ?_
        | refine TRun.split rfl rfl rfl rfl (fun h => ?_) (fun h => ?_))
    | (refine HoldsT.id ?_; first
        | refine HoldsT.seq ?_
        | refine HoldsT.regionU ?_
        | refine HoldsT.drawn tabs2 ?_
        | refine HoldsT.yes rfl ?_
        | refine HoldsT.no rfl ?_
        | refine HoldsT.cond rfl (fun h => ?_) (fun h => ?_)
        | refine HoldsT.block ?_
        | refine HoldsT.ret ?_
        | refine HoldsT.skip ?_
        | refine HoldsT.exit ?_)
    | (refine okTr_intro ?_; kernel_rfl)
    | exact absurd rfl h
    | refine allProp_C ?_ ?_
    | refine And.intro ?_ ?_
    | omega
    | (show _ < List.length _; omega)
    | exact rowlen_intro rfl
    | exact lenEq_intro rfl
    | exact Nat.le_of_ble_eq_true rfl
    | (simp only [AV.rowlenD, AV.rowlen, AV.ncells, mulSz, toN, Option.map_some, Option.map_none, cutL, List.length_take, List.length_drop, List.length_append, List.length_cons, List.length_nil, List.length_set, Option.some.injEq, Int.reduceToNat] <;> omega))
  exact FinC.te (y := .bool _) rfl rfl trivial rfl
theorem join_len (ls : List (List UInt8)) (l n : Int) : (joinR ls l n).old.length ≤ ls.length ∧ (joinR ls l n).new.length ≤ 1 := by
  unfold joinR
  split
  · refine ⟨?_, by simp⟩
    simp only [midL]
    exact cutL_le _ _ _
  · exact ⟨by simp [joNo], by simp [joNo]⟩

end Go.Proofs.YtefbgdnobnemkaaDoor.AM
