/-
  What the operator d does.
-/
import Derived.Test.YtefbgdnobnemkaaF28
set_option linter.unusedSimpArgs false
set_option linter.unusedVariables false
set_option linter.unusedSectionVars false
namespace Go.Proofs.Ytefbgdnobnemkaa.AM
open Go Go.RowKit


set_option maxRecDepth 10000 in
set_option maxHeartbeats 8000000 in
theorem p69d (ls : List (List UInt8)) (k fl fc tl tc n : Int) (hL : ls.length ≤ 1000000000) (hB : ∀ n : Nat, (ls.getD n []).length ≤ 1000000000000) (hv : validL ls k fl fc tl tc = true) :
    Pure Try.prog 69 [.slS ls, .str [100], .agg [.int .i64 k, .int .i64 fl, .int .i64 fc, .int .i64 tl, .int .i64 tc], .int .i64 n] (cutR ls k fl fc tl tc).av := by
  obtain ⟨hv1, hv2⟩ := validL_spec hv
  have k89 := p89 ls k fl fc tl tc hL hB
  refine Pure.ofT tab2_ok Try.func69 rfl rfl [.cell 8 47, .tmp 9] rfl (by decide) rfl ⟨80, 7, (.node (.node (.node (.node (.node (.node (.node (.leaf (.slS ls)) (J 0)) (J 1)) (J 2)) (J 3)) (J 4)) (.node (.node (.node (.node (.node (.leaf (.agg [.int .i64 k, .int .i64 fl, .int .i64 fc, .int .i64 tl, .int .i64 tc])) (J 0)) (J 1)) (J 2)) (J 3)) (J 4))) (.node (.node (.node (.node (.node (.node (.leaf (.str [100])) (J 0)) (J 1)) (J 2)) (J 3)) (J 4)) (.node (.node (.node (.node (.node (.leaf (.int .i64 n)) (J 0)) (J 1)) (J 2)) (J 3)) (J 4)))), (OO 7)⟩ (by kernel_rfl) (by kernel_rfl) ?_
  repeat' (first
    | refine allProp_T ?_
    | exact trivial
    | (refine URun.id ?_; first
        | refine URun.nil ?_
        | refine URun.many tabs2 rfl rfl (by kernel_rfl) ?_ ?_
        | (refine URun.toCall 89 rfl ?_; first
          | refine URun.call tabs2 rfl rfl rfl rfl k89 rfl rfl ?_ rfl ?_)
        | refine URun.same tabs2 rfl rfl rfl ?_
        | refine URun.same2 tabs2 rfl rfl rfl ?_
        | refine URun.yes tabs2 rfl rfl rfl rfl ?_
        | refine URun.no tabs2 rfl rfl rfl rfl ?_
        | refine URun.yes tabs2 rfl rfl (by decide) rfl ?_
        | refine URun.no tabs2 rfl rfl (by decide) rfl ?_
        | refine URun.split tabs2 rfl rfl rfl rfl (fun h => ?_) (fun h => ?_))
    | (refine TRun.id ?_; first
        | refine TRun.nil ?_
        | refine TRun.many rfl rfl (by kernel_rfl) ?_ ?_
        | (refine TRun.toCall 89 rfl ?_; first
          | refine TRun.call rfl rfl rfl rfl k89 rfl rfl ?_ rfl ?_)
        | refine TRun.same rfl rfl rfl ?_
        | refine TRun.same2 rfl rfl rfl ?_
        | refine TRun.yes rfl rfl rfl rfl ?_
        | refine TRun.no rfl rfl rfl rfl ?_
        | refine TRun.yes rfl rfl (by decide) rfl ?_
        | refine TRun.no rfl rfl (by decide) rfl ?_
        | refine TRun.split rfl rfl rfl rfl (fun h => ?_) (fun h => ?_))
    | (refine HoldsT.id ?_; first
        | refine HoldsT.seq ?_
        | refine HoldsT.regionU ?_
        | refine HoldsT.drawn tabs2 ?_
        | refine HoldsT.yes rfl ?_
        | refine HoldsT.no rfl ?_
        | refine HoldsT.cond rfl (fun h => ?_) (fun h => ?_)
        | refine HoldsT.block ?_
        | refine HoldsT.ret ?_
        | refine HoldsT.skip ?_
        | refine HoldsT.exit ?_)
    | (refine okTr_intro ?_; kernel_rfl)
    | exact absurd rfl h
    | refine allProp_C ?_ ?_
    | refine And.intro ?_ ?_
    | omega
    | (show _ < List.length _; omega)
    | exact rowlen_intro rfl
    | exact lenEq_intro rfl
    | exact Nat.le_of_ble_eq_true rfl
    | (simp only [AV.rowlenD, AV.rowlen, AV.ncells, mulSz, toN, Option.map_some, Option.map_none, cutL, List.length_take, List.length_drop, List.length_append, List.length_cons, List.length_nil, List.length_set, Option.some.injEq, Int.reduceToNat] <;> omega))
  all_goals exact FinC.t (y := .tup [.agg [.int .i64 _, .slS _, .slS _], .bool _]) rfl rfl ⟨⟨trivial, trivial, trivial, trivial⟩, trivial, trivial⟩ (AVle.rfl' rfl)

set_option maxRecDepth 10000 in
set_option maxHeartbeats 8000000 in
theorem p69z (ls : List (List UInt8)) (k fl fc tl tc n : Int) (hL : ls.length ≤ 1000000000) (hB : ∀ n : Nat, (ls.getD n []).length ≤ 1000000000000) (hv : validL ls k fl fc tl tc = true) :
    Pure Try.prog 69 [.slS ls, .str [122, 122], .agg [.int .i64 k, .int .i64 fl, .int .i64 fc, .int .i64 tl, .int .i64 tc], .int .i64 n] chNo.av := by
  obtain ⟨hv1, hv2⟩ := validL_spec hv
  refine Pure.ofT tab2_ok Try.func69 rfl rfl [.cell 8 47, .tmp 9] rfl (by decide) rfl ⟨80, 7, (.node (.node (.node (.node (.node (.node (.node (.leaf (.slS ls)) (J 0)) (J 1)) (J 2)) (J 3)) (J 4)) (.node (.node (.node (.node (.node (.leaf (.agg [.int .i64 k, .int .i64 fl, .int .i64 fc, .int .i64 tl, .int .i64 tc])) (J 0)) (J 1)) (J 2)) (J 3)) (J 4))) (.node (.node (.node (.node (.node (.node (.leaf (.str [122, 122])) (J 0)) (J 1)) (J 2)) (J 3)) (J 4)) (.node (.node (.node (.node (.node (.leaf (.int .i64 n)) (J 0)) (J 1)) (J 2)) (J 3)) (J 4)))), (OO 7)⟩ (by kernel_rfl) (by kernel_rfl) ?_
  repeat' (first
    | refine allProp_T ?_
    | exact trivial
    | (refine URun.id ?_; first
        | refine URun.nil ?_
        | refine URun.many tabs2 rfl rfl (by kernel_rfl) ?_ ?_
        | refine URun.same tabs2 rfl rfl rfl ?_
        | refine URun.same2 tabs2 rfl rfl rfl ?_
        | refine URun.yes tabs2 rfl rfl (by decide) rfl ?_
        | refine URun.no tabs2 rfl rfl (by decide) rfl ?_
        | refine URun.split tabs2 rfl rfl rfl rfl (fun h => ?_) (fun h => ?_))
    | (refine TRun.id ?_; first
        | refine TRun.nil ?_
        | refine TRun.many rfl rfl (by kernel_rfl) ?_ ?_
        | refine TRun.same rfl rfl rfl ?_
        | refine TRun.same2 rfl rfl rfl ?_
        | refine TRun.yes rfl rfl (by decide) rfl ?_
        | refine TRun.no rfl rfl (by decide) rfl ?_
        | refine TRun.split rfl rfl rfl rfl (fun h => ?_) (fun h => ?_))
    | (refine HoldsT.id ?_; first
        | refine HoldsT.seq ?_
        | refine HoldsT.regionU ?_
        | refine HoldsT.drawn tabs2 ?_
        | refine HoldsT.yes rfl ?_
        | refine HoldsT.no rfl ?_
        | refine HoldsT.cond rfl (fun h => ?_) (fun h => ?_)
        | refine HoldsT.block ?_
        | refine HoldsT.ret ?_
        | refine HoldsT.skip ?_
        | refine HoldsT.exit ?_)
    | (refine okTr_intro ?_; kernel_rfl)
    | exact absurd rfl h
    | refine allProp_C ?_ ?_
    | refine And.intro ?_ ?_
    | omega
    | (show _ < List.length _; omega)
    | exact rowlen_intro rfl
    | exact lenEq_intro rfl
    | exact Nat.le_of_ble_eq_true rfl
    | (simp only [AV.rowlenD, AV.rowlen, AV.ncells, mulSz, toN, Option.map_some, Option.map_none, cutL, List.length_take, List.length_drop, List.length_append, List.length_cons, List.length_nil, List.length_set, Option.some.injEq, Int.reduceToNat] <;> omega))
  all_goals exact FinC.t (y := .tup [.agg [.int .i64 _, .nilsl, .nilsl], .bool _]) rfl rfl ⟨⟨trivial, trivial, trivial, trivial⟩, trivial, trivial⟩ noLeC

set_option maxRecDepth 10000 in
set_option maxHeartbeats 8000000 in
theorem p48z (ls : List (List UInt8)) (k fl fc tl tc n : Int) (hL : ls.length ≤ 1000000000) (hB : ∀ n : Nat, (ls.getD n []).length ≤ 1000000000000) (hv : validL ls k fl fc tl tc = true) :
    Pure Try.prog 48 [.slS ls, .str [122, 122], .agg [.int .i64 k, .int .i64 fl, .int .i64 fc, .int .i64 tl, .int .i64 tc], .int .i64 n] tyNo.av := by
  have k55 := p55 ls k fl fc tl tc
  rw [hv] at k55
  have k69 := p69z ls k fl fc tl tc n hL hB hv
  refine Pure.ofT tab2_ok Try.func48 rfl rfl [.cell 8 47, .cell 9 23, .tmp 10] rfl (by decide) rfl ⟨81, 7, (.node (.node (.node (.node (.node (.node (.node (.leaf (.slS ls)) (J 0)) (J 1)) (J 2)) (J 3)) (J 4)) (.node (.node (.node (.node (.node (.leaf (.agg [.int .i64 k, .int .i64 fl, .int .i64 fc, .int .i64 tl, .int .i64 tc])) (J 0)) (J 1)) (J 2)) (J 3)) (J 4))) (.node (.node (.node (.node (.node (.node (.leaf (.str [122, 122])) (J 0)) (J 1)) (J 2)) (J 3)) (J 4)) (.node (.node (.node (.node (.node (.leaf (.int .i64 n)) (J 0)) (J 1)) (J 2)) (J 3)) (J 4)))), (OO 7)⟩ (by kernel_rfl) (by kernel_rfl) ?_
  repeat' (first
    | refine allProp_T ?_
    | exact trivial
    | (refine URun.id ?_; first
        | refine URun.nil ?_
        | refine URun.many tabs2 rfl rfl (by kernel_rfl) ?_ ?_
        | (refine URun.toCall 55 rfl ?_; first
          | refine URun.call tabs2 rfl rfl rfl rfl k55 rfl rfl ?_ rfl ?_)
        | (refine URun.toCall 69 rfl ?_; first
          | refine URun.call tabs2 rfl rfl rfl rfl k69 rfl rfl ?_ rfl ?_)
        | refine URun.same tabs2 rfl rfl rfl ?_
        | refine URun.same2 tabs2 rfl rfl rfl ?_
        | refine URun.split tabs2 rfl rfl rfl rfl (fun h => ?_) (fun h => ?_))
    | (refine TRun.id ?_; first
        | refine TRun.nil ?_
        | refine TRun.many rfl rfl (by kernel_rfl) ?_ ?_
        | (refine TRun.toCall 55 rfl ?_; first
          | refine TRun.call rfl rfl rfl rfl k55 rfl rfl ?_ rfl ?_)
        | (refine TRun.toCall 69 rfl ?_; first
          | refine TRun.call rfl rfl rfl rfl k69 rfl rfl ?_ rfl ?_)
        | refine TRun.same rfl rfl rfl ?_
        | refine TRun.same2 rfl rfl rfl ?_
        | refine TRun.split rfl rfl rfl rfl (fun h => ?_) (fun h => ?_))
    | (refine HoldsT.id ?_; first
        | refine HoldsT.seq ?_
        | refine HoldsT.regionU ?_
        | refine HoldsT.drawn tabs2 ?_
        | refine HoldsT.yes rfl ?_
        | refine HoldsT.no rfl ?_
        | refine HoldsT.cond rfl (fun h => ?_) (fun h => ?_)
        | refine HoldsT.block ?_
        | refine HoldsT.ret ?_
        | refine HoldsT.skip ?_
        | refine HoldsT.exit ?_)
    | (refine okTr_intro ?_; kernel_rfl)
    | exact absurd rfl h
    | refine allProp_C ?_ ?_
    | refine And.intro ?_ ?_
    | omega
    | (show _ < List.length _; omega)
    | exact rowlen_intro rfl
    | exact lenEq_intro rfl
    | exact Nat.le_of_ble_eq_true rfl
    | (simp only [AV.rowlenD, AV.rowlen, AV.ncells, mulSz, toN, Option.map_some, Option.map_none, cutL, List.length_take, List.length_drop, List.length_append, List.length_cons, List.length_nil, List.length_set, Option.some.injEq, Int.reduceToNat] <;> omega))
  all_goals exact FinC.t (y := .tup [.agg [.int .i64 _, .nilsl, .nilsl], .agg [.int .i64 _, .int .i64 _], .bool _]) rfl rfl ⟨⟨trivial, trivial, trivial, trivial⟩, ⟨trivial, trivial, trivial⟩, trivial, trivial⟩ noLe

/-- Where the cursor is behind a change that took a range out. -/
def atD (now : List (List UInt8)) (k fl fc : Int) : Int × Int := if k = 1 then (min fl ((now.length : Int) - 1), firstL (now.getD (min fl ((now.length : Int) - 1)).toNat [])) else (fl, fc)
def doD (ls : List (List UInt8)) (k fl fc : Int) (r : ChR) : TyR :=
  ⟨true, r.at', r.old, r.new, clL (appL ls r.at' r.old r.new) (atD (appL ls r.at' r.old r.new) k fl fc).1, clC (appL ls r.at' r.old r.new) (atD (appL ls r.at' r.old r.new) k fl fc).1 (atD (appL ls r.at' r.old r.new) k fl fc).2 false⟩

set_option maxRecDepth 10000 in
set_option maxHeartbeats 8000000 in
theorem p48w (ls : List (List UInt8)) (k fl fc tl tc n : Int) (hL : ls.length ≤ 1000000000) (hB : ∀ n : Nat, (ls.getD n []).length ≤ 1000000000000) (hv : validL ls k fl fc tl tc = true) (a : Int) (old new : List (List UInt8)) (ho : old.length ≤ 1000000000) (hn : new.length ≤ 1000000000) (hN : (appL ls a old new).length ≤ 1000000000) (hNB : ∀ n : Nat, ((appL ls a old new).getD n []).length ≤ 1000000000000) (hN0 : 0 < (appL ls a old new).length) (hok : appOk ls a old new = true)
    (k69 : Pure Try.prog 69 [.slS ls, .str [100], .agg [.int .i64 k, .int .i64 fl, .int .i64 fc, .int .i64 tl, .int .i64 tc], .int .i64 n] (.tup [.agg [.int .i64 a, .slS old, .slS new], .bool true])) :
    Pure Try.prog 48 [.slS ls, .str [100], .agg [.int .i64 k, .int .i64 fl, .int .i64 fc, .int .i64 tl, .int .i64 tc], .int .i64 n] (doD ls k fl fc ⟨true, a, old, new⟩).av := by
  have k55 := p55 ls k fl fc tl tc
  rw [hv] at k55
  obtain ⟨hv1, hv2⟩ := validL_spec hv
  have k70 := p70 ls old new a hL ho hn
  rw [hok] at k70
  unfold doD
  generalize appL ls a old new = now at *
  have k71 := p71 now fl hN hNB hN0 hv1.1
  have k72 := p72 now (atD now k fl fc).1 (atD now k fl fc).2 false hN hNB hN0
  by_cases hk : k = 1
  · have e : atD now k fl fc = (min fl ((now.length : Int) - 1), firstL (now.getD (min fl ((now.length : Int) - 1)).toNat [])) := if_pos hk
    rw [e] at k72 ⊢
    refine Pure.ofT tab2_ok Try.func48 rfl rfl [.cell 8 47, .cell 9 23, .tmp 10] rfl (by decide) rfl ⟨81, 7, (.node (.node (.node (.node (.node (.node (.node (.leaf (.slS ls)) (J 0)) (J 1)) (J 2)) (J 3)) (J 4)) (.node (.node (.node (.node (.node (.leaf (.agg [.int .i64 k, .int .i64 fl, .int .i64 fc, .int .i64 tl, .int .i64 tc])) (J 0)) (J 1)) (J 2)) (J 3)) (J 4))) (.node (.node (.node (.node (.node (.node (.leaf (.str [100])) (J 0)) (J 1)) (J 2)) (J 3)) (J 4)) (.node (.node (.node (.node (.node (.leaf (.int .i64 n)) (J 0)) (J 1)) (J 2)) (J 3)) (J 4)))), (OO 7)⟩ (by kernel_rfl) (by kernel_rfl) ?_
    repeat' (first
      | refine allProp_T ?_
      | exact trivial
      | (refine URun.id ?_; first
          | refine URun.nil ?_
          | refine URun.many tabs2 rfl rfl (by kernel_rfl) ?_ ?_
          | (refine URun.toCall 55 rfl ?_; first
            | refine URun.call tabs2 rfl rfl rfl rfl k55 rfl rfl ?_ rfl ?_)
          | (refine URun.toCall 69 rfl ?_; first
            | refine URun.call tabs2 rfl rfl rfl rfl k69 rfl rfl ?_ rfl ?_)
          | (refine URun.toCall 70 rfl ?_; first
            | refine URun.call tabs2 rfl rfl rfl rfl k70 rfl rfl ?_ rfl ?_)
          | (refine URun.toCall 71 rfl ?_; first
            | refine URun.call tabs2 rfl rfl rfl rfl k71 rfl rfl ?_ rfl ?_)
          | (refine URun.toCall 72 rfl ?_; first
            | refine URun.call tabs2 rfl rfl rfl rfl k72 rfl rfl ?_ rfl ?_)
          | refine URun.same tabs2 rfl rfl rfl ?_
          | refine URun.same2 tabs2 rfl rfl rfl ?_
          | refine URun.yes tabs2 rfl rfl rfl rfl ?_
          | refine URun.no tabs2 rfl rfl rfl rfl ?_
          | refine URun.yes tabs2 rfl rfl hk rfl ?_
          | refine URun.no tabs2 rfl rfl hk rfl ?_
          | refine URun.yes tabs2 rfl rfl (by decide) rfl ?_
          | refine URun.no tabs2 rfl rfl (by decide) rfl ?_
          | refine URun.split tabs2 rfl rfl rfl rfl (fun h => ?_) (fun h => ?_))
      | (refine TRun.id ?_; first
          | refine TRun.nil ?_
          | refine TRun.many rfl rfl (by kernel_rfl) ?_ ?_
          | (refine TRun.toCall 55 rfl ?_; first
            | refine TRun.call rfl rfl rfl rfl k55 rfl rfl ?_ rfl ?_)
          | (refine TRun.toCall 69 rfl ?_; first
            | refine TRun.call rfl rfl rfl rfl k69 rfl rfl ?_ rfl ?_)
          | (refine TRun.toCall 70 rfl ?_; first
            | refine TRun.call rfl rfl rfl rfl k70 rfl rfl ?_ rfl ?_)
          | (refine TRun.toCall 71 rfl ?_; first
            | refine TRun.call rfl rfl rfl rfl k71 rfl rfl ?_ rfl ?_)
          | (refine TRun.toCall 72 rfl ?_; first
            | refine TRun.call rfl rfl rfl rfl k72 rfl rfl ?_ rfl ?_)
          | refine TRun.same rfl rfl rfl ?_
          | refine TRun.same2 rfl rfl rfl ?_
          | refine TRun.yes rfl rfl rfl rfl ?_
          | refine TRun.no rfl rfl rfl rfl ?_
          | refine TRun.yes rfl rfl hk rfl ?_
          | refine TRun.no rfl rfl hk rfl ?_
          | refine TRun.yes rfl rfl (by decide) rfl ?_
          | refine TRun.no rfl rfl (by decide) rfl ?_
          | refine TRun.split rfl rfl rfl rfl (fun h => ?_) (fun h => ?_))
      | (refine HoldsT.id ?_; first
          | refine HoldsT.seq ?_
          | refine HoldsT.regionU ?_
          | refine HoldsT.drawn tabs2 ?_
          | refine HoldsT.yes rfl ?_
          | refine HoldsT.no rfl ?_
          | refine HoldsT.cond rfl (fun h => ?_) (fun h => ?_)
          | refine HoldsT.block ?_
          | refine HoldsT.ret ?_
          | refine HoldsT.skip ?_
          | refine HoldsT.exit ?_)
      | (refine okTr_intro ?_; kernel_rfl)
      | exact absurd rfl h
      | exact rowGk rfl rfl rfl
      | refine allProp_C ?_ ?_
      | refine And.intro ?_ ?_
      | omega
      | (show _ < List.length _; omega)
      | exact rowlen_intro rfl
      | exact lenEq_intro rfl
      | exact Nat.le_of_ble_eq_true rfl
      | (simp only [AV.rowlenD, AV.rowlen, AV.ncells, mulSz, toN, Option.map_some, Option.map_none, cutL, List.length_take, List.length_drop, List.length_append, List.length_cons, List.length_nil, List.length_set, Option.some.injEq, Int.reduceToNat] <;> omega))
    all_goals exact FinC.t (y := .tup [.agg [.int .i64 _, .slS _, .slS _], .agg [.int .i64 _, .int .i64 _], .bool _]) rfl rfl ⟨⟨trivial, trivial, trivial, trivial⟩, ⟨trivial, trivial, trivial⟩, trivial, trivial⟩ (AVle.rfl' rfl)
  · have e : atD now k fl fc = (fl, fc) := if_neg hk
    rw [e] at k72 ⊢
    refine Pure.ofT tab2_ok Try.func48 rfl rfl [.cell 8 47, .cell 9 23, .tmp 10] rfl (by decide) rfl ⟨81, 7, (.node (.node (.node (.node (.node (.node (.node (.leaf (.slS ls)) (J 0)) (J 1)) (J 2)) (J 3)) (J 4)) (.node (.node (.node (.node (.node (.leaf (.agg [.int .i64 k, .int .i64 fl, .int .i64 fc, .int .i64 tl, .int .i64 tc])) (J 0)) (J 1)) (J 2)) (J 3)) (J 4))) (.node (.node (.node (.node (.node (.node (.leaf (.str [100])) (J 0)) (J 1)) (J 2)) (J 3)) (J 4)) (.node (.node (.node (.node (.node (.leaf (.int .i64 n)) (J 0)) (J 1)) (J 2)) (J 3)) (J 4)))), (OO 7)⟩ (by kernel_rfl) (by kernel_rfl) ?_
    repeat' (first
      | refine allProp_T ?_
      | exact trivial
      | (refine URun.id ?_; first
          | refine URun.nil ?_
          | refine URun.many tabs2 rfl rfl (by kernel_rfl) ?_ ?_
          | (refine URun.toCall 55 rfl ?_; first
            | refine URun.call tabs2 rfl rfl rfl rfl k55 rfl rfl ?_ rfl ?_)
          | (refine URun.toCall 69 rfl ?_; first
            | refine URun.call tabs2 rfl rfl rfl rfl k69 rfl rfl ?_ rfl ?_)
          | (refine URun.toCall 70 rfl ?_; first
            | refine URun.call tabs2 rfl rfl rfl rfl k70 rfl rfl ?_ rfl ?_)
          | (refine URun.toCall 71 rfl ?_; first
            | refine URun.call tabs2 rfl rfl rfl rfl k71 rfl rfl ?_ rfl ?_)
          | (refine URun.toCall 72 rfl ?_; first
            | refine URun.call tabs2 rfl rfl rfl rfl k72 rfl rfl ?_ rfl ?_)
          | refine URun.same tabs2 rfl rfl rfl ?_
          | refine URun.same2 tabs2 rfl rfl rfl ?_
          | refine URun.yes tabs2 rfl rfl rfl rfl ?_
          | refine URun.no tabs2 rfl rfl rfl rfl ?_
          | refine URun.yes tabs2 rfl rfl hk rfl ?_
          | refine URun.no tabs2 rfl rfl hk rfl ?_
          | refine URun.yes tabs2 rfl rfl (by decide) rfl ?_
          | refine URun.no tabs2 rfl rfl (by decide) rfl ?_
          | refine URun.split tabs2 rfl rfl rfl rfl (fun h => ?_) (fun h => ?_))
      | (refine TRun.id ?_; first
          | refine TRun.nil ?_
          | refine TRun.many rfl rfl (by kernel_rfl) ?_ ?_
          | (refine TRun.toCall 55 rfl ?_; first
            | refine TRun.call rfl rfl rfl rfl k55 rfl rfl ?_ rfl ?_)
          | (refine TRun.toCall 69 rfl ?_; first
            | refine TRun.call rfl rfl rfl rfl k69 rfl rfl ?_ rfl ?_)
          | (refine TRun.toCall 70 rfl ?_; first
            | refine TRun.call rfl rfl rfl rfl k70 rfl rfl ?_ rfl ?_)
          | (refine TRun.toCall 71 rfl ?_; first
            | refine TRun.call rfl rfl rfl rfl k71 rfl rfl ?_ rfl ?_)
          | (refine TRun.toCall 72 rfl ?_; first
            | refine TRun.call rfl rfl rfl rfl k72 rfl rfl ?_ rfl ?_)
          | refine TRun.same rfl rfl rfl ?_
          | refine TRun.same2 rfl rfl rfl ?_
          | refine TRun.yes rfl rfl rfl rfl ?_
          | refine TRun.no rfl rfl rfl rfl ?_
          | refine TRun.yes rfl rfl hk rfl ?_
          | refine TRun.no rfl rfl hk rfl ?_
          | refine TRun.yes rfl rfl (by decide) rfl ?_
          | refine TRun.no rfl rfl (by decide) rfl ?_
          | refine TRun.split rfl rfl rfl rfl (fun h => ?_) (fun h => ?_))
      | (refine HoldsT.id ?_; first
          | refine HoldsT.seq ?_
          | refine HoldsT.regionU ?_
          | refine HoldsT.drawn tabs2 ?_
          | refine HoldsT.yes rfl ?_
          | refine HoldsT.no rfl ?_
          | refine HoldsT.cond rfl (fun h => ?_) (fun h => ?_)
          | refine HoldsT.block ?_
          | refine HoldsT.ret ?_
          | refine HoldsT.skip ?_
          | refine HoldsT.exit ?_)
      | (refine okTr_intro ?_; kernel_rfl)
      | exact absurd rfl h
      | exact rowGk rfl rfl rfl
      | refine allProp_C ?_ ?_
      | refine And.intro ?_ ?_
      | omega
      | (show _ < List.length _; omega)
      | exact rowlen_intro rfl
      | exact lenEq_intro rfl
      | exact Nat.le_of_ble_eq_true rfl
      | (simp only [AV.rowlenD, AV.rowlen, AV.ncells, mulSz, toN, Option.map_some, Option.map_none, cutL, List.length_take, List.length_drop, List.length_append, List.length_cons, List.length_nil, List.length_set, Option.some.injEq, Int.reduceToNat] <;> omega))
    all_goals exact FinC.t (y := .tup [.agg [.int .i64 _, .slS _, .slS _], .agg [.int .i64 _, .int .i64 _], .bool _]) rfl rfl ⟨⟨trivial, trivial, trivial, trivial⟩, ⟨trivial, trivial, trivial⟩, trivial, trivial⟩ (AVle.rfl' rfl)

end Go.Proofs.Ytefbgdnobnemkaa.AM
