/-
  What the operators that shift do.
-/
import Derived.Test.YtefbgdnobnemkaaF36
set_option linter.unusedSimpArgs false
set_option linter.unusedVariables false
set_option linter.unusedSectionVars false
namespace Go.Proofs.Ytefbgdnobnemkaa.AM
open Go Go.RowKit

def doS (ls : List (List UInt8)) (fl a : Int) (old new : List (List UInt8)) : TyR :=
  ⟨true, a, old, new, clL (appL ls a old new) (min fl (((appL ls a old new).length : Int) - 1)), clC (appL ls a old new) (min fl (((appL ls a old new).length : Int) - 1)) (firstL ((appL ls a old new).getD (min fl (((appL ls a old new).length : Int) - 1)).toNat [])) false⟩

set_option maxRecDepth 10000 in
set_option maxHeartbeats 8000000 in
theorem p69r (ls : List (List UInt8)) (k fl fc tl tc n : Int) (hL : ls.length ≤ 1000000000) (hB : ∀ n : Nat, (ls.getD n []).length ≤ 1000000000000) (hv : validL ls k fl fc tl tc = true) (hn : 1 ≤ n) :
    Pure Try.prog 69 [.slS ls, .str [62], .agg [.int .i64 k, .int .i64 fl, .int .i64 fc, .int .i64 tl, .int .i64 tc], .int .i64 n] (ChR.av ⟨true, fl, midL ls fl (tl - fl + 1), eachL (fun i => shR (ls.getD i.toNat []) (min n 1024)) fl (tl - fl + 1).toNat⟩) := by
  obtain ⟨hv1, hv2⟩ := validL_spec hv
  have k90 := p90r ls fl tl n hL hB hv1.1 hv1.2.1 hv1.2.2 hn
  refine Pure.ofT tab2_ok Try.func69 rfl rfl [.cell 8 47, .tmp 9] rfl (by decide) rfl ⟨80, 7, (.node (.node (.node (.node (.node (.node (.node (.leaf (.slS ls)) (J 0)) (J 1)) (J 2)) (J 3)) (J 4)) (.node (.node (.node (.node (.node (.leaf (.agg [.int .i64 k, .int .i64 fl, .int .i64 fc, .int .i64 tl, .int .i64 tc])) (J 0)) (J 1)) (J 2)) (J 3)) (J 4))) (.node (.node (.node (.node (.node (.node (.leaf (.str [62])) (J 0)) (J 1)) (J 2)) (J 3)) (J 4)) (.node (.node (.node (.node (.node (.leaf (.int .i64 n)) (J 0)) (J 1)) (J 2)) (J 3)) (J 4)))), (OO 7)⟩ (by kernel_rfl) (by kernel_rfl) ?_
  repeat' (first
    | refine allProp_T ?_
    | exact trivial
    | (refine URun.id ?_; first
        | refine URun.nil ?_
        | refine URun.many tabs2 rfl rfl (by kernel_rfl) ?_ ?_
        | (refine URun.toCall 90 rfl ?_; first
          | refine URun.call tabs2 rfl rfl rfl rfl k90 rfl rfl ?_ rfl ?_)
        | refine URun.same tabs2 rfl rfl rfl ?_
        | refine URun.same2 tabs2 rfl rfl rfl ?_
        | refine URun.yes tabs2 rfl rfl rfl rfl ?_
        | refine URun.no tabs2 rfl rfl rfl rfl ?_
        | refine URun.yes tabs2 rfl rfl (by decide) rfl ?_
        | refine URun.no tabs2 rfl rfl (by decide) rfl ?_
        | refine URun.split tabs2 rfl rfl rfl rfl (fun h => ?_) (fun h => ?_))
    | (refine TRun.id ?_; first
        | refine TRun.nil ?_
        | refine TRun.many rfl rfl (by kernel_rfl) ?_ ?_
        | (refine TRun.toCall 90 rfl ?_; first
          | refine TRun.call rfl rfl rfl rfl k90 rfl rfl ?_ rfl ?_)
        | refine TRun.same rfl rfl rfl ?_
        | refine TRun.same2 rfl rfl rfl ?_
        | refine TRun.yes rfl rfl rfl rfl ?_
        | refine TRun.no rfl rfl rfl rfl ?_
        | refine TRun.yes rfl rfl (by decide) rfl ?_
        | refine TRun.no rfl rfl (by decide) rfl ?_
        | refine TRun.split rfl rfl rfl rfl (fun h => ?_) (fun h => ?_))
    | (refine HoldsT.id ?_; first
        | refine HoldsT.seq ?_
        | refine HoldsT.regionU ?_
        | refine HoldsT.drawn tabs2 ?_
        | refine HoldsT.yes rfl ?_
        | refine HoldsT.no rfl ?_
        | refine HoldsT.cond rfl (fun h => ?_) (fun h => ?_)
        | refine HoldsT.block ?_
        | refine HoldsT.ret ?_
        | refine HoldsT.skip ?_
        | refine HoldsT.exit ?_)
    | (refine okTr_intro ?_; kernel_rfl)
    | exact absurd rfl h
    | refine allProp_C ?_ ?_
    | refine And.intro ?_ ?_
    | omega
    | (show _ < List.length _; omega)
    | exact rowlen_intro rfl
    | exact lenEq_intro rfl
    | exact Nat.le_of_ble_eq_true rfl
    | (simp only [AV.rowlenD, AV.rowlen, AV.ncells, mulSz, toN, Option.map_some, Option.map_none, cutL, List.length_take, List.length_drop, List.length_append, List.length_cons, List.length_nil, List.length_set, Option.some.injEq, Int.reduceToNat] <;> omega))
  all_goals exact FinC.t (y := .tup [.agg [.int .i64 _, .slS _, .slS _], .bool _]) rfl rfl ⟨⟨trivial, trivial, trivial, trivial⟩, trivial, trivial⟩ (AVle.rfl' rfl)

set_option maxRecDepth 10000 in
set_option maxHeartbeats 8000000 in
theorem p48r (ls : List (List UInt8)) (k fl fc tl tc n : Int) (hL : ls.length ≤ 1000000000) (hB : ∀ n : Nat, (ls.getD n []).length ≤ 1000000000000) (hv : validL ls k fl fc tl tc = true) (a : Int) (old new : List (List UInt8)) (ho : old.length ≤ 1000000000) (hn : new.length ≤ 1000000000) (hN : (appL ls a old new).length ≤ 1000000000) (hNB : ∀ n : Nat, ((appL ls a old new).getD n []).length ≤ 1000000000000) (hN0 : 0 < (appL ls a old new).length) (hok : appOk ls a old new = true)
    (k69 : Pure Try.prog 69 [.slS ls, .str [62], .agg [.int .i64 k, .int .i64 fl, .int .i64 fc, .int .i64 tl, .int .i64 tc], .int .i64 n] (.tup [.agg [.int .i64 a, .slS old, .slS new], .bool true])) :
    Pure Try.prog 48 [.slS ls, .str [62], .agg [.int .i64 k, .int .i64 fl, .int .i64 fc, .int .i64 tl, .int .i64 tc], .int .i64 n] (doS ls fl a old new).av := by
  have k55 := p55 ls k fl fc tl tc
  rw [hv] at k55
  obtain ⟨hv1, hv2⟩ := validL_spec hv
  have k70 := p70 ls old new a hL ho hn
  rw [hok] at k70
  unfold doS
  generalize appL ls a old new = now at *
  have k71 := p71 now fl hN hNB hN0 hv1.1
  have k72 := p72 now (min fl ((now.length : Int) - 1)) (firstL (now.getD (min fl ((now.length : Int) - 1)).toNat [])) false hN hNB hN0
  refine Pure.ofT tab2_ok Try.func48 rfl rfl [.cell 8 47, .cell 9 23, .tmp 10] rfl (by decide) rfl ⟨81, 7, (.node (.node (.node (.node (.node (.node (.node (.leaf (.slS ls)) (J 0)) (J 1)) (J 2)) (J 3)) (J 4)) (.node (.node (.node (.node (.node (.leaf (.agg [.int .i64 k, .int .i64 fl, .int .i64 fc, .int .i64 tl, .int .i64 tc])) (J 0)) (J 1)) (J 2)) (J 3)) (J 4))) (.node (.node (.node (.node (.node (.node (.leaf (.str [62])) (J 0)) (J 1)) (J 2)) (J 3)) (J 4)) (.node (.node (.node (.node (.node (.leaf (.int .i64 n)) (J 0)) (J 1)) (J 2)) (J 3)) (J 4)))), (OO 7)⟩ (by kernel_rfl) (by kernel_rfl) ?_
  repeat' (first
    | refine allProp_T ?_
    | exact trivial
    | (refine URun.id ?_; first
        | refine URun.nil ?_
        | refine URun.many tabs2 rfl rfl (by kernel_rfl) ?_ ?_
        | (refine URun.toCall 55 rfl ?_; first
          | refine URun.call tabs2 rfl rfl rfl rfl k55 rfl rfl ?_ rfl ?_)
        | (refine URun.toCall 69 rfl ?_; first
          | refine URun.call tabs2 rfl rfl rfl rfl k69 rfl rfl ?_ rfl ?_)
        | (refine URun.toCall 70 rfl ?_; first
          | refine URun.call tabs2 rfl rfl rfl rfl k70 rfl rfl ?_ rfl ?_)
        | (refine URun.toCall 71 rfl ?_; first
          | refine URun.call tabs2 rfl rfl rfl rfl k71 rfl rfl ?_ rfl ?_)
        | (refine URun.toCall 72 rfl ?_; first
          | refine URun.call tabs2 rfl rfl rfl rfl k72 rfl rfl ?_ rfl ?_)
        | refine URun.same tabs2 rfl rfl rfl ?_
        | refine URun.same2 tabs2 rfl rfl rfl ?_
        | refine URun.yes tabs2 rfl rfl rfl rfl ?_
        | refine URun.no tabs2 rfl rfl rfl rfl ?_
        | refine URun.yes tabs2 rfl rfl (by decide) rfl ?_
        | refine URun.no tabs2 rfl rfl (by decide) rfl ?_
        | refine URun.split tabs2 rfl rfl rfl rfl (fun h => ?_) (fun h => ?_))
    | (refine TRun.id ?_; first
        | refine TRun.nil ?_
        | refine TRun.many rfl rfl (by kernel_rfl) ?_ ?_
        | (refine TRun.toCall 55 rfl ?_; first
          | refine TRun.call rfl rfl rfl rfl k55 rfl rfl ?_ rfl ?_)
        | (refine TRun.toCall 69 rfl ?_; first
          | refine TRun.call rfl rfl rfl rfl k69 rfl rfl ?_ rfl ?_)
        | (refine TRun.toCall 70 rfl ?_; first
          | refine TRun.call rfl rfl rfl rfl k70 rfl rfl ?_ rfl ?_)
        | (refine TRun.toCall 71 rfl ?_; first
          | refine TRun.call rfl rfl rfl rfl k71 rfl rfl ?_ rfl ?_)
        | (refine TRun.toCall 72 rfl ?_; first
          | refine TRun.call rfl rfl rfl rfl k72 rfl rfl ?_ rfl ?_)
        | refine TRun.same rfl rfl rfl ?_
        | refine TRun.same2 rfl rfl rfl ?_
        | refine TRun.yes rfl rfl rfl rfl ?_
        | refine TRun.no rfl rfl rfl rfl ?_
        | refine TRun.yes rfl rfl (by decide) rfl ?_
        | refine TRun.no rfl rfl (by decide) rfl ?_
        | refine TRun.split rfl rfl rfl rfl (fun h => ?_) (fun h => ?_))
    | (refine HoldsT.id ?_; first
        | refine HoldsT.seq ?_
        | refine HoldsT.regionU ?_
        | refine HoldsT.drawn tabs2 ?_
        | refine HoldsT.yes rfl ?_
        | refine HoldsT.no rfl ?_
        | refine HoldsT.cond rfl (fun h => ?_) (fun h => ?_)
        | refine HoldsT.block ?_
        | refine HoldsT.ret ?_
        | refine HoldsT.skip ?_
        | refine HoldsT.exit ?_)
    | (refine okTr_intro ?_; kernel_rfl)
    | exact absurd rfl h
    | exact rowGk rfl rfl rfl
    | refine allProp_C ?_ ?_
    | refine And.intro ?_ ?_
    | omega
    | (show _ < List.length _; omega)
    | exact rowlen_intro rfl
    | exact lenEq_intro rfl
    | exact Nat.le_of_ble_eq_true rfl
    | (simp only [AV.rowlenD, AV.rowlen, AV.ncells, mulSz, toN, Option.map_some, Option.map_none, cutL, List.length_take, List.length_drop, List.length_append, List.length_cons, List.length_nil, List.length_set, Option.some.injEq, Int.reduceToNat] <;> omega))
  all_goals exact FinC.te (y := .tup [.agg [.int .i64 _, .slS _, .slS _], .agg [.int .i64 _, .int .i64 _], .bool _]) rfl rfl ⟨⟨trivial, trivial, trivial, trivial⟩, ⟨trivial, trivial, trivial⟩, trivial, trivial⟩ rfl

set_option maxRecDepth 10000 in
set_option maxHeartbeats 8000000 in
theorem p69l (ls : List (List UInt8)) (k fl fc tl tc n : Int) (hL : ls.length ≤ 1000000000) (hB : ∀ n : Nat, (ls.getD n []).length ≤ 1000000000000) (hv : validL ls k fl fc tl tc = true) (hn : 1 ≤ n) :
    Pure Try.prog 69 [.slS ls, .str [60], .agg [.int .i64 k, .int .i64 fl, .int .i64 fc, .int .i64 tl, .int .i64 tc], .int .i64 n] (ChR.av ⟨true, fl, midL ls fl (tl - fl + 1), eachL (fun i => shLf (ls.getD i.toNat []) (min n 1024)) fl (tl - fl + 1).toNat⟩) := by
  obtain ⟨hv1, hv2⟩ := validL_spec hv
  have k90 := p90l ls fl tl n hL hB hv1.1 hv1.2.1 hv1.2.2 hn
  refine Pure.ofT tab2_ok Try.func69 rfl rfl [.cell 8 47, .tmp 9] rfl (by decide) rfl ⟨80, 7, (.node (.node (.node (.node (.node (.node (.node (.leaf (.slS ls)) (J 0)) (J 1)) (J 2)) (J 3)) (J 4)) (.node (.node (.node (.node (.node (.leaf (.agg [.int .i64 k, .int .i64 fl, .int .i64 fc, .int .i64 tl, .int .i64 tc])) (J 0)) (J 1)) (J 2)) (J 3)) (J 4))) (.node (.node (.node (.node (.node (.node (.leaf (.str [60])) (J 0)) (J 1)) (J 2)) (J 3)) (J 4)) (.node (.node (.node (.node (.node (.leaf (.int .i64 n)) (J 0)) (J 1)) (J 2)) (J 3)) (J 4)))), (OO 7)⟩ (by kernel_rfl) (by kernel_rfl) ?_
  repeat' (first
    | refine allProp_T ?_
    | exact trivial
    | (refine URun.id ?_; first
        | refine URun.nil ?_
        | refine URun.many tabs2 rfl rfl (by kernel_rfl) ?_ ?_
        | (refine URun.toCall 90 rfl ?_; first
          | refine URun.call tabs2 rfl rfl rfl rfl k90 rfl rfl ?_ rfl ?_)
        | refine URun.same tabs2 rfl rfl rfl ?_
        | refine URun.same2 tabs2 rfl rfl rfl ?_
        | refine URun.yes tabs2 rfl rfl rfl rfl ?_
        | refine URun.no tabs2 rfl rfl rfl rfl ?_
        | refine URun.yes tabs2 rfl rfl (by decide) rfl ?_
        | refine URun.no tabs2 rfl rfl (by decide) rfl ?_
        | refine URun.split tabs2 rfl rfl rfl rfl (fun h => ?_) (fun h => ?_))
    | (refine TRun.id ?_; first
        | refine TRun.nil ?_
        | refine TRun.many rfl rfl (by kernel_rfl) ?_ ?_
        | (refine TRun.toCall 90 rfl ?_; first
          | refine TRun.call rfl rfl rfl rfl k90 rfl rfl ?_ rfl ?_)
        | refine TRun.same rfl rfl rfl ?_
        | refine TRun.same2 rfl rfl rfl ?_
        | refine TRun.yes rfl rfl rfl rfl ?_
        | refine TRun.no rfl rfl rfl rfl ?_
        | refine TRun.yes rfl rfl (by decide) rfl ?_
        | refine TRun.no rfl rfl (by decide) rfl ?_
        | refine TRun.split rfl rfl rfl rfl (fun h => ?_) (fun h => ?_))
    | (refine HoldsT.id ?_; first
        | refine HoldsT.seq ?_
        | refine HoldsT.regionU ?_
        | refine HoldsT.drawn tabs2 ?_
        | refine HoldsT.yes rfl ?_
        | refine HoldsT.no rfl ?_
        | refine HoldsT.cond rfl (fun h => ?_) (fun h => ?_)
        | refine HoldsT.block ?_
        | refine HoldsT.ret ?_
        | refine HoldsT.skip ?_
        | refine HoldsT.exit ?_)
    | (refine okTr_intro ?_; kernel_rfl)
    | exact absurd rfl h
    | refine allProp_C ?_ ?_
    | refine And.intro ?_ ?_
    | omega
    | (show _ < List.length _; omega)
    | exact rowlen_intro rfl
    | exact lenEq_intro rfl
    | exact Nat.le_of_ble_eq_true rfl
    | (simp only [AV.rowlenD, AV.rowlen, AV.ncells, mulSz, toN, Option.map_some, Option.map_none, cutL, List.length_take, List.length_drop, List.length_append, List.length_cons, List.length_nil, List.length_set, Option.some.injEq, Int.reduceToNat] <;> omega))
  all_goals exact FinC.t (y := .tup [.agg [.int .i64 _, .slS _, .slS _], .bool _]) rfl rfl ⟨⟨trivial, trivial, trivial, trivial⟩, trivial, trivial⟩ (AVle.rfl' rfl)

set_option maxRecDepth 10000 in
set_option maxHeartbeats 8000000 in
theorem p48l (ls : List (List UInt8)) (k fl fc tl tc n : Int) (hL : ls.length ≤ 1000000000) (hB : ∀ n : Nat, (ls.getD n []).length ≤ 1000000000000) (hv : validL ls k fl fc tl tc = true) (a : Int) (old new : List (List UInt8)) (ho : old.length ≤ 1000000000) (hn : new.length ≤ 1000000000) (hN : (appL ls a old new).length ≤ 1000000000) (hNB : ∀ n : Nat, ((appL ls a old new).getD n []).length ≤ 1000000000000) (hN0 : 0 < (appL ls a old new).length) (hok : appOk ls a old new = true)
    (k69 : Pure Try.prog 69 [.slS ls, .str [60], .agg [.int .i64 k, .int .i64 fl, .int .i64 fc, .int .i64 tl, .int .i64 tc], .int .i64 n] (.tup [.agg [.int .i64 a, .slS old, .slS new], .bool true])) :
    Pure Try.prog 48 [.slS ls, .str [60], .agg [.int .i64 k, .int .i64 fl, .int .i64 fc, .int .i64 tl, .int .i64 tc], .int .i64 n] (doS ls fl a old new).av := by
  have k55 := p55 ls k fl fc tl tc
  rw [hv] at k55
  obtain ⟨hv1, hv2⟩ := validL_spec hv
  have k70 := p70 ls old new a hL ho hn
  rw [hok] at k70
  unfold doS
  generalize appL ls a old new = now at *
  have k71 := p71 now fl hN hNB hN0 hv1.1
  have k72 := p72 now (min fl ((now.length : Int) - 1)) (firstL (now.getD (min fl ((now.length : Int) - 1)).toNat [])) false hN hNB hN0
  refine Pure.ofT tab2_ok Try.func48 rfl rfl [.cell 8 47, .cell 9 23, .tmp 10] rfl (by decide) rfl ⟨81, 7, (.node (.node (.node (.node (.node (.node (.node (.leaf (.slS ls)) (J 0)) (J 1)) (J 2)) (J 3)) (J 4)) (.node (.node (.node (.node (.node (.leaf (.agg [.int .i64 k, .int .i64 fl, .int .i64 fc, .int .i64 tl, .int .i64 tc])) (J 0)) (J 1)) (J 2)) (J 3)) (J 4))) (.node (.node (.node (.node (.node (.node (.leaf (.str [60])) (J 0)) (J 1)) (J 2)) (J 3)) (J 4)) (.node (.node (.node (.node (.node (.leaf (.int .i64 n)) (J 0)) (J 1)) (J 2)) (J 3)) (J 4)))), (OO 7)⟩ (by kernel_rfl) (by kernel_rfl) ?_
  repeat' (first
    | refine allProp_T ?_
    | exact trivial
    | (refine URun.id ?_; first
        | refine URun.nil ?_
        | refine URun.many tabs2 rfl rfl (by kernel_rfl) ?_ ?_
        | (refine URun.toCall 55 rfl ?_; first
          | refine URun.call tabs2 rfl rfl rfl rfl k55 rfl rfl ?_ rfl ?_)
        | (refine URun.toCall 69 rfl ?_; first
          | refine URun.call tabs2 rfl rfl rfl rfl k69 rfl rfl ?_ rfl ?_)
        | (refine URun.toCall 70 rfl ?_; first
          | refine URun.call tabs2 rfl rfl rfl rfl k70 rfl rfl ?_ rfl ?_)
        | (refine URun.toCall 71 rfl ?_; first
          | refine URun.call tabs2 rfl rfl rfl rfl k71 rfl rfl ?_ rfl ?_)
        | (refine URun.toCall 72 rfl ?_; first
          | refine URun.call tabs2 rfl rfl rfl rfl k72 rfl rfl ?_ rfl ?_)
        | refine URun.same tabs2 rfl rfl rfl ?_
        | refine URun.same2 tabs2 rfl rfl rfl ?_
        | refine URun.yes tabs2 rfl rfl rfl rfl ?_
        | refine URun.no tabs2 rfl rfl rfl rfl ?_
        | refine URun.yes tabs2 rfl rfl (by decide) rfl ?_
        | refine URun.no tabs2 rfl rfl (by decide) rfl ?_
        | refine URun.split tabs2 rfl rfl rfl rfl (fun h => ?_) (fun h => ?_))
    | (refine TRun.id ?_; first
        | refine TRun.nil ?_
        | refine TRun.many rfl rfl (by kernel_rfl) ?_ ?_
        | (refine TRun.toCall 55 rfl ?_; first
          | refine TRun.call rfl rfl rfl rfl k55 rfl rfl ?_ rfl ?_)
        | (refine TRun.toCall 69 rfl ?_; first
          | refine TRun.call rfl rfl rfl rfl k69 rfl rfl ?_ rfl ?_)
        | (refine TRun.toCall 70 rfl ?_; first
          | refine TRun.call rfl rfl rfl rfl k70 rfl rfl ?_ rfl ?_)
        | (refine TRun.toCall 71 rfl ?_; first
          | refine TRun.call rfl rfl rfl rfl k71 rfl rfl ?_ rfl ?_)
        | (refine TRun.toCall 72 rfl ?_; first
          | refine TRun.call rfl rfl rfl rfl k72 rfl rfl ?_ rfl ?_)
        | refine TRun.same rfl rfl rfl ?_
        | refine TRun.same2 rfl rfl rfl ?_
        | refine TRun.yes rfl rfl rfl rfl ?_
        | refine TRun.no rfl rfl rfl rfl ?_
        | refine TRun.yes rfl rfl (by decide) rfl ?_
        | refine TRun.no rfl rfl (by decide) rfl ?_
        | refine TRun.split rfl rfl rfl rfl (fun h => ?_) (fun h => ?_))
    | (refine HoldsT.id ?_; first
        | refine HoldsT.seq ?_
        | refine HoldsT.regionU ?_
        | refine HoldsT.drawn tabs2 ?_
        | refine HoldsT.yes rfl ?_
        | refine HoldsT.no rfl ?_
        | refine HoldsT.cond rfl (fun h => ?_) (fun h => ?_)
        | refine HoldsT.block ?_
        | refine HoldsT.ret ?_
        | refine HoldsT.skip ?_
        | refine HoldsT.exit ?_)
    | (refine okTr_intro ?_; kernel_rfl)
    | exact absurd rfl h
    | exact rowGk rfl rfl rfl
    | refine allProp_C ?_ ?_
    | refine And.intro ?_ ?_
    | omega
    | (show _ < List.length _; omega)
    | exact rowlen_intro rfl
    | exact lenEq_intro rfl
    | exact Nat.le_of_ble_eq_true rfl
    | (simp only [AV.rowlenD, AV.rowlen, AV.ncells, mulSz, toN, Option.map_some, Option.map_none, cutL, List.length_take, List.length_drop, List.length_append, List.length_cons, List.length_nil, List.length_set, Option.some.injEq, Int.reduceToNat] <;> omega))
  all_goals exact FinC.te (y := .tup [.agg [.int .i64 _, .slS _, .slS _], .agg [.int .i64 _, .int .i64 _], .bool _]) rfl rfl ⟨⟨trivial, trivial, trivial, trivial⟩, ⟨trivial, trivial, trivial⟩, trivial, trivial⟩ rfl

end Go.Proofs.Ytefbgdnobnemkaa.AM
