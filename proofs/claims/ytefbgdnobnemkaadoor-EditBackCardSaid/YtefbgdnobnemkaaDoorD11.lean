/-
  Letters that are turned either way.
-/
import Derived.Test.YtefbgdnobnemkaaDoorD8
set_option linter.unusedSimpArgs false
set_option linter.unusedVariables false
set_option linter.unusedSectionVars false
namespace Go.Proofs.YtefbgdnobnemkaaDoor.AM
open Go Go.RowKit

/-- A line of a range whose letters are turned. -/
def rowC (up dn : Bool) (ls : List (List UInt8)) (k fl fc tl tc i : Int) : List UInt8 := turnL (caseB up dn) (ls.getD i.toNat []) (colF ls k fl fc i).toNat (colT ls k tl tc i).toNat

/-- A range whose letters are turned: what it is. -/
theorem case_facts {ls : List (List UInt8)} {k fl fc tl tc : Int} (up dn : Bool) (hv : validL ls k fl fc tl tc = true) {old new now : List (List UInt8)} (ho : old = midL ls fl (tl - fl + 1)) (hn : new = eachL (rowC up dn ls k fl fc tl tc) fl (tl - fl + 1).toNat) (hw : now = appL ls fl old new) :
    appOk ls fl old new = true ∧ now.length = ls.length ∧ (∀ i : Nat, (now.getD i []).length = (ls.getD i []).length) ∧ (∀ i : Nat, fl ≤ (i : Int) → (i : Int) ≤ tl → now.getD i [] = rowC up dn ls k fl fc tl tc i) := by
  obtain ⟨hv1, hv2⟩ := validL_spec hv
  subst ho hn hw
  obtain ⟨f1, f2, f3⟩ := app_each (F := rowC up dn ls k fl fc tl tc) hv1.1 hv1.2.1 hv1.2.2
  refine ⟨f1, f2, fun i => ?_, fun i h1 h2 => ?_⟩
  · rw [f3 i]
    split
    · unfold rowC
      rw [turn_len]
      simp
    · rfl
  · rw [f3 i, if_pos ⟨h1, h2⟩]


def sh125ti (l0 : List (List UInt8)) (k fl fc tl tc : Int) (i : Int) (d : List UInt8) (t j : Int) : TS := ⟨39, 6, (.node (.node (.node (.node (.node (.node (.leaf (.int .i64 i)) (J 0)) (J 1)) (.node (.node (.leaf (.int .i64 t)) (J 0)) (J 1))) (J 3)) (.node (.node (.node (.node (.leaf (.cptr (.agg [.int .i64 k, .int .i64 fl, .int .i64 fc, .int .i64 tl, .int .i64 tc]) 0)) (J 0)) (J 1)) (J 2)) (.node (.node (.node (.leaf (.own 14 d.length)) (J 0)) (J 1)) (J 2)))) (.node (.node (.node (.node (.node (.leaf (.cptr (.agg [.slS l0]) 0)) (J 0)) (J 1)) (.node (.node (.leaf (.int .i64 j)) (J 0)) (J 1))) (J 3)) (.node (.node (.node (.node (.leaf (.cptr (.agg [.fn 52 [.cptr (.agg [.bool true]) 0, .cptr (.agg [.fn 49 []]) 0, .cptr (.agg [.bool true]) 0, .cptr (.agg [.fn 50 []]) 0]]) 0)) (J 0)) (J 1)) (J 2)) (J 3)))), (.node (.node (OO 4) (.node (OO 3) (.node (OO 2) (.node (.node (.leaf (some ⟨true, false, .slB d, 5⟩)) (OO 0)) (OO 1))))) (OO 5))⟩
set_option maxRecDepth 10000 in
set_option maxHeartbeats 8000000 in
theorem p125ti (l0 : List (List UInt8)) (k fl fc tl tc : Int) (i : Int) (hL : l0.length ≤ 1000000000) (hB : ∀ n : Nat, (l0.getD n []).length ≤ 1000000000000) (h : validL l0 k fl fc tl tc = true) (h1 : fl ≤ i) (h2 : i ≤ tl) :
    Pure Tryd.prog 62 [.int .i64 i, .cptr (.agg [.slS l0]) 0, .cptr (.agg [.int .i64 k, .int .i64 fl, .int .i64 fc, .int .i64 tl, .int .i64 tc]) 0, .cptr (.agg [.fn 52 [.cptr (.agg [.bool true]) 0, .cptr (.agg [.fn 49 []]) 0, .cptr (.agg [.bool true]) 0, .cptr (.agg [.fn 50 []]) 0]]) 0] (.str (rowC true true l0 k fl fc tl tc i)) := by
  obtain ⟨hv1, hv2⟩ := validL_spec h
  have hb := hB i.toNat
  obtain ⟨c1, c2, c3⟩ := cols_ok h h1 h2
  have c3 : colT l0 k tl tc i ≤ ((l0.getD i.toNat []).length : Int) := c3
  have k56 := p56 l0 k fl fc tl tc i (by omega) (by omega) hB (by omega)
  unfold rowC
  generalize colF l0 k fl fc i = p at *
  generalize colT l0 k tl tc i = q at *
  refine Pure.ofT tab2_ok Tryd.func62 rfl rfl [.tmp 5] rfl (by decide) rfl ⟨39, 6, (.node (.node (.node (.node (.node (.node (.leaf (.int .i64 i)) (J 0)) (J 1)) (J 2)) (J 3)) (.node (.node (.node (.node (.leaf (.cptr (.agg [.int .i64 k, .int .i64 fl, .int .i64 fc, .int .i64 tl, .int .i64 tc]) 0)) (J 0)) (J 1)) (J 2)) (J 3))) (.node (.node (.node (.node (.node (.leaf (.cptr (.agg [.slS l0]) 0)) (J 0)) (J 1)) (J 2)) (J 3)) (.node (.node (.node (.node (.leaf (.cptr (.agg [.fn 52 [.cptr (.agg [.bool true]) 0, .cptr (.agg [.fn 49 []]) 0, .cptr (.agg [.bool true]) 0, .cptr (.agg [.fn 50 []]) 0]]) 0)) (J 0)) (J 1)) (J 2)) (J 3)))), (OO 6)⟩ (by kernel_rfl) (by kernel_rfl) ?_
  repeat' (first
    | refine allProp_T ?_
    | exact trivial
    | (refine URun.id ?_; first
        | refine URun.nil ?_
        | refine URun.many tabs2 rfl rfl (by kernel_rfl) ?_ ?_
        | (refine URun.toCall 44 rfl ?_; first
          | refine URun.call tabs2 rfl rfl rfl rfl k56 rfl rfl ?_ rfl ?_)
        | refine URun.same tabs2 rfl rfl rfl ?_
        | refine URun.same2 tabs2 rfl rfl rfl ?_
        | refine URun.split tabs2 rfl rfl rfl rfl (fun h => ?_) (fun h => ?_))
    | (refine TRun.id ?_; first
        | refine TRun.nil ?_
        | refine TRun.many rfl rfl (by kernel_rfl) ?_ ?_
        | (refine TRun.toCall 44 rfl ?_; first
          | refine TRun.call rfl rfl rfl rfl k56 rfl rfl ?_ rfl ?_)
        | refine TRun.same rfl rfl rfl ?_
        | refine TRun.same2 rfl rfl rfl ?_
        | refine TRun.split rfl rfl rfl rfl (fun h => ?_) (fun h => ?_))
    | (refine HoldsT.id ?_; first
        | refine HoldsT.seq ?_
        | refine HoldsT.regionU ?_
        | refine HoldsT.drawn tabs2 ?_
        | refine HoldsT.yes rfl ?_
        | refine HoldsT.no rfl ?_
        | refine HoldsT.cond rfl (fun h => ?_) (fun h => ?_)
        | refine HoldsT.block ?_
        | refine HoldsT.ret ?_
        | refine HoldsT.skip ?_
        | refine HoldsT.exit ?_)
    | (refine okTr_intro ?_; kernel_rfl)
    | exact absurd rfl h
    | refine allProp_C ?_ ?_
    | refine And.intro ?_ ?_
    | omega
    | (show _ < List.length _; omega)
    | exact rowlen_intro rfl
    | exact lenEq_intro rfl
    | exact Nat.le_of_ble_eq_true rfl
    | (simp only [AV.rowlenD, AV.rowlen, AV.ncells, mulSz, toN, Option.map_some, Option.map_none, cutL, List.length_take, List.length_drop, List.length_append, List.length_cons, List.length_nil, List.length_set, Option.some.injEq, Int.reduceToNat] <;> omega))
  refine HoldsT.loop (fun x : Int × List UInt8 => sh125ti l0 k fl fc tl tc i x.2 q x.1) (fun x => (q - x.1).toNat) (fun x => p ≤ x.1 ∧ x.1 ≤ q ∧ x.2 = turnL (caseB true true) (l0.getD i.toNat []) p.toNat x.1.toNat) (p, l0.getD i.toNat []) ?_ ?_ (fun _ => by kernel_rfl) ?_
  · refine WeakT.of ?_ ?_ (by kernel_rfl)
    · repeat' (first | exact TTle.junk _ _ | exact TTle.same _ | refine TTle.node ?_ ?_ | refine TTle.leaf ?_ | exact AVle.junk _ | exact AVle.rfl' rfl | exact AVle.nilS | exact AVle.nilB)
    · repeat' (first | exact OOle.none _ _ | exact OOle.same _ | refine OOle.node ?_ ?_ | exact OOle.leaf _ | exact OOle.gone _)
  · exact ⟨by simp, by simp only; omega, (turn_none _ _ _).symm⟩
  · intro x hx
    obtain ⟨j, d⟩ := x
    obtain ⟨g1, g2, g3⟩ := hx
    simp only at g1 g2 g3
    have hd : d.length = (l0.getD i.toNat []).length := by rw [g3]; exact turn_len _ _ _ _
    have k113 := p113_tt ((d.getD j.toNat 0).toNat : Int) (u8_in _)
    have hin := case_in true true (u8_in (d.getD j.toNat 0))
    show HoldsT Tryd.prog _ (sh125ti l0 k fl fc tl tc i d q j) _
    repeat' (first
      | refine allProp_T ?_
      | exact trivial
      | (refine URun.id ?_; first
          | refine URun.nil ?_
          | refine URun.many tabs2 rfl rfl (by kernel_rfl) ?_ ?_
          | (refine URun.toCall 52 rfl ?_; first
            | refine URun.call tabs2 rfl rfl rfl rfl k113 rfl rfl ?_ rfl ?_)
          | refine URun.same tabs2 rfl rfl rfl ?_
          | refine URun.same2 tabs2 rfl rfl rfl ?_
          | refine URun.split tabs2 rfl rfl rfl rfl (fun h => ?_) (fun h => ?_))
      | (refine TRun.id ?_; first
          | refine TRun.nil ?_
          | refine TRun.many rfl rfl (by kernel_rfl) ?_ ?_
          | (refine TRun.toCall 52 rfl ?_; first
            | refine TRun.call rfl rfl rfl rfl k113 rfl rfl ?_ rfl ?_)
          | refine TRun.same rfl rfl rfl ?_
          | refine TRun.same2 rfl rfl rfl ?_
          | refine TRun.split rfl rfl rfl rfl (fun h => ?_) (fun h => ?_))
      | (refine HoldsT.id ?_; first
          | refine HoldsT.seq ?_
          | refine HoldsT.regionU ?_
          | refine HoldsT.drawn tabs2 ?_
          | refine HoldsT.yes rfl ?_
          | refine HoldsT.no rfl ?_
          | refine HoldsT.cond rfl (fun h => ?_) (fun h => ?_)
          | refine HoldsT.block ?_
          | refine HoldsT.ret ?_
          | refine HoldsT.skip ?_
          | refine HoldsT.exit ?_)
      | (refine okTr_intro ?_; kernel_rfl)
      | exact absurd rfl h
      | exact hin
      | refine allProp_C ?_ ?_
      | refine And.intro ?_ ?_
      | omega
      | (show _ < List.length _; omega)
      | exact rowlen_intro rfl
      | exact lenEq_intro rfl
      | exact Nat.le_of_ble_eq_true rfl
      | (simp only [AV.rowlenD, AV.rowlen, AV.ncells, mulSz, toN, Option.map_some, Option.map_none, cutL, List.length_take, List.length_drop, List.length_append, List.length_cons, List.length_nil, List.length_set, Option.some.injEq, Int.reduceToNat] <;> omega))
    · refine ⟨(j + 1, d.set j.toNat (caseB true true (d.getD j.toNat 0))), ⟨by simp only at *; omega, by simp only at *; omega, by simp only at *; omega, ?_⟩, ?_⟩
      · simp only
        rw [g3, show (j + 1).toNat = j.toNat + 1 by omega]
        exact turn_step _ _ (by omega) (by omega)
      · refine WeakT.of ?_ ?_ (by kernel_rfl)
        · repeat' (first | exact TTle.junk _ _ | exact TTle.same _ | refine TTle.node ?_ ?_ | refine TTle.leaf ?_ | exact AVle.junk _ | exact AVle.rfl' rfl | exact AVle.nilS | exact AVle.nilB | exact AVle.rfl' (congrArg (AV.own 14) (List.length_set ..).symm))
        · repeat' (first | exact OOle.none _ _ | exact OOle.same _ | refine OOle.node ?_ ?_ | exact OOle.leaf _ | exact OOle.gone _)
    · refine FinC.te (y := .str _) rfl rfl trivial (congrArg AV.str ?_)
      rw [g3, show j = q by omega]

def each125ti_sh (l0 : List (List UInt8)) (k fl fc tl tc : Int) (ls : List (List UInt8)) (a b i : Int) (out : List (List UInt8)) : TS := ⟨31, 5, (.node (.node (.node (.node (.node (.leaf (.slS ls)) (J 0)) (.node (.leaf (.ptr 8 0)) (J 0))) (J 2)) (.node (.node (.node (.leaf (.int .i64 b)) (J 0)) (.node (.leaf (.int .i64 i)) (J 0))) (J 2))) (.node (.node (.node (.node (.leaf (.int .i64 a)) (J 0)) (.node (.leaf (.own 22 out.length)) (J 0))) (J 2)) (.node (.node (.node (.leaf (.fn 62 [.cptr (.agg [.slS l0]) 0, .cptr (.agg [.int .i64 k, .int .i64 fl, .int .i64 fc, .int .i64 tl, .int .i64 tc]) 0, .cptr (.agg [.fn 52 [.cptr (.agg [.bool true]) 0, .cptr (.agg [.fn 49 []]) 0, .cptr (.agg [.bool true]) 0, .cptr (.agg [.fn 50 []]) 0]]) 0])) (J 0)) (J 1)) (J 2)))), (.node (.node (.node (.node (OO 1) (.node (.leaf (some ⟨true, false, .agg [.int .i64 0, .nilsl, .nilsl], 31⟩)) (OO 0))) (OO 2)) (.node (OO 2) (.node (.node (OO 0) (.leaf (some ⟨true, true, .slS out, 9⟩))) (OO 1)))) (OO 4))⟩

set_option maxRecDepth 10000 in
set_option maxHeartbeats 8000000 in
theorem each125ti (l0 : List (List UInt8)) (k fl fc tl tc : Int) (F : Int → List UInt8) (ls : List (List UInt8)) (a b : Int) (hL : ls.length ≤ 1000000000) (h0 : 0 ≤ a) (h1 : a ≤ b) (h2 : b < ls.length)
    (hF : ∀ i, a ≤ i → i ≤ b → Pure Tryd.prog 62 [.int .i64 i, .cptr (.agg [.slS l0]) 0, .cptr (.agg [.int .i64 k, .int .i64 fl, .int .i64 fc, .int .i64 tl, .int .i64 tc]) 0, .cptr (.agg [.fn 52 [.cptr (.agg [.bool true]) 0, .cptr (.agg [.fn 49 []]) 0, .cptr (.agg [.bool true]) 0, .cptr (.agg [.fn 50 []]) 0]]) 0] (.str (F i))) :
    Pure Tryd.prog 42 [.slS ls, .int .i64 a, .int .i64 b, .fn 62 [.cptr (.agg [.slS l0]) 0, .cptr (.agg [.int .i64 k, .int .i64 fl, .int .i64 fc, .int .i64 tl, .int .i64 tc]) 0, .cptr (.agg [.fn 52 [.cptr (.agg [.bool true]) 0, .cptr (.agg [.fn 49 []]) 0, .cptr (.agg [.bool true]) 0, .cptr (.agg [.fn 50 []]) 0]]) 0]] (.agg [.int .i64 a, .slS (midL ls a (b - a + 1)), .slS (eachL F a (b - a + 1).toNat)]) := by
  refine Pure.ofT tab2_ok Tryd.func42 rfl rfl [.cell 8 31] rfl (by decide) rfl ⟨31, 5, (.node (.node (.node (.node (.node (.leaf (.slS ls)) (J 0)) (J 1)) (J 2)) (.node (.node (.node (.leaf (.int .i64 b)) (J 0)) (J 1)) (J 2))) (.node (.node (.node (.node (.leaf (.int .i64 a)) (J 0)) (J 1)) (J 2)) (.node (.node (.node (.leaf (.fn 62 [.cptr (.agg [.slS l0]) 0, .cptr (.agg [.int .i64 k, .int .i64 fl, .int .i64 fc, .int .i64 tl, .int .i64 tc]) 0, .cptr (.agg [.fn 52 [.cptr (.agg [.bool true]) 0, .cptr (.agg [.fn 49 []]) 0, .cptr (.agg [.bool true]) 0, .cptr (.agg [.fn 50 []]) 0]]) 0])) (J 0)) (J 1)) (J 2)))), (OO 5)⟩ (by kernel_rfl) (by kernel_rfl) ?_
  repeat' (first
    | refine allProp_T ?_
    | exact trivial
    | (refine URun.id ?_; first
        | refine URun.nil ?_
        | refine URun.many tabs2 rfl rfl (by kernel_rfl) ?_ ?_
        | refine URun.same tabs2 rfl rfl rfl ?_
        | refine URun.same2 tabs2 rfl rfl rfl ?_
        | refine URun.split tabs2 rfl rfl rfl rfl (fun h => ?_) (fun h => ?_))
    | (refine TRun.id ?_; first
        | refine TRun.nil ?_
        | refine TRun.many rfl rfl (by kernel_rfl) ?_ ?_
        | refine TRun.same rfl rfl rfl ?_
        | refine TRun.same2 rfl rfl rfl ?_
        | refine TRun.split rfl rfl rfl rfl (fun h => ?_) (fun h => ?_))
    | (refine HoldsT.id ?_; first
        | refine HoldsT.seq ?_
        | refine HoldsT.regionU ?_
        | refine HoldsT.drawn tabs2 ?_
        | refine HoldsT.yes rfl ?_
        | refine HoldsT.no rfl ?_
        | refine HoldsT.cond rfl (fun h => ?_) (fun h => ?_)
        | refine HoldsT.block ?_
        | refine HoldsT.ret ?_
        | refine HoldsT.skip ?_
        | refine HoldsT.exit ?_)
    | (refine okTr_intro ?_; kernel_rfl)
    | exact absurd rfl h
    | refine allProp_C ?_ ?_
    | refine And.intro ?_ ?_
    | omega
    | (show _ < List.length _; omega)
    | exact rowlen_intro rfl
    | exact lenEq_intro rfl
    | exact Nat.le_of_ble_eq_true rfl
    | (simp only [AV.rowlenD, AV.rowlen, AV.ncells, mulSz, toN, Option.map_some, Option.map_none, cutL, List.length_take, List.length_drop, List.length_append, List.length_cons, List.length_nil, List.length_set, Option.some.injEq, Int.reduceToNat] <;> omega))
  refine HoldsT.loop (fun x : Int × List (List UInt8) => each125ti_sh l0 k fl fc tl tc ls a b x.1 x.2) (fun x => (b + 1 - x.1).toNat) (fun x => a ≤ x.1 ∧ x.1 ≤ b + 1 ∧ x.2 = eachL F a (x.1 - a).toNat) (a, []) ?_ ?_ (fun _ => by kernel_rfl) ?_
  · refine (WeakT.canon 9 22 9 (.slS []) rfl rfl rfl (by kernel_rfl) rfl).trans ?_
    refine WeakT.of ?_ ?_ (by kernel_rfl)
    · repeat' (first | exact TTle.junk _ _ | exact TTle.same _ | refine TTle.node ?_ ?_ | refine TTle.leaf ?_ | exact AVle.junk _ | exact AVle.rfl' rfl | exact AVle.nilS | exact AVle.nilB)
    · repeat' (first | exact OOle.none _ _ | exact OOle.same _ | refine OOle.node ?_ ?_ | exact OOle.leaf _ | exact OOle.gone _)
  · exact ⟨by simp, by simp only; omega, by simp [eachL]⟩
  · intro x hx
    obtain ⟨i, out⟩ := x
    obtain ⟨h3, h4, h5⟩ := hx
    simp only at h3 h4 h5
    have hlen : out.length = (i - a).toNat := by rw [h5]; exact eachL_length _ _ _
    have k80 := p80 ls out a (b - a + 1) (by omega) h0 (by omega) (by omega)
    show HoldsT Tryd.prog _ (each125ti_sh l0 k fl fc tl tc ls a b i out) _
    repeat' (first
      | refine allProp_T ?_
      | exact trivial
      | (refine URun.id ?_; first
          | refine URun.nil ?_
          | refine URun.many tabs2 rfl rfl (by kernel_rfl) ?_ ?_
          | (refine URun.toCall 62 rfl ?_; first
            | refine URun.call tabs2 rfl rfl rfl rfl (hF i (by omega) (by omega)) rfl rfl ?_ rfl ?_)
          | (refine URun.toCall 33 rfl ?_; first
            | refine URun.call tabs2 rfl rfl rfl rfl k80 rfl rfl ?_ rfl ?_)
          | refine URun.same tabs2 rfl rfl rfl ?_
          | refine URun.same2 tabs2 rfl rfl rfl ?_
          | refine URun.split tabs2 rfl rfl rfl rfl (fun h => ?_) (fun h => ?_))
      | (refine TRun.id ?_; first
          | refine TRun.nil ?_
          | refine TRun.many rfl rfl (by kernel_rfl) ?_ ?_
          | (refine TRun.toCall 62 rfl ?_; first
            | refine TRun.call rfl rfl rfl rfl (hF i (by omega) (by omega)) rfl rfl ?_ rfl ?_)
          | (refine TRun.toCall 33 rfl ?_; first
            | refine TRun.call rfl rfl rfl rfl k80 rfl rfl ?_ rfl ?_)
          | refine TRun.same rfl rfl rfl ?_
          | refine TRun.same2 rfl rfl rfl ?_
          | refine TRun.split rfl rfl rfl rfl (fun h => ?_) (fun h => ?_))
      | (refine HoldsT.id ?_; first
          | refine HoldsT.seq ?_
          | refine HoldsT.regionU ?_
          | refine HoldsT.drawn tabs2 ?_
          | refine HoldsT.yes rfl ?_
          | refine HoldsT.no rfl ?_
          | refine HoldsT.cond rfl (fun h => ?_) (fun h => ?_)
          | refine HoldsT.block ?_
          | refine HoldsT.ret ?_
          | refine HoldsT.skip ?_
          | refine HoldsT.exit ?_)
      | (refine okTr_intro ?_; kernel_rfl)
      | exact absurd rfl h
      | refine allProp_C ?_ ?_
      | refine And.intro ?_ ?_
      | omega
      | (show _ < List.length _; omega)
      | exact rowlen_intro rfl
      | exact lenEq_intro rfl
      | exact Nat.le_of_ble_eq_true rfl
      | (simp only [AV.rowlenD, AV.rowlen, AV.ncells, mulSz, toN, Option.map_some, Option.map_none, cutL, List.length_take, List.length_drop, List.length_append, List.length_cons, List.length_nil, List.length_set, Option.some.injEq, Int.reduceToNat] <;> omega))
    · refine ⟨(i + 1, out ++ [F i]), ⟨by simp only at *; omega, by simp only at *; omega, by simp only at *; omega, ?_⟩, ?_⟩
      · simp only
        rw [show (i + 1 - a).toNat = (i - a).toNat + 1 by omega, eachL, ← h5, show a + ((i - a).toNat : Int) = i by omega]
      · refine WeakT.of ?_ ?_ (by kernel_rfl)
        · repeat' (first | exact TTle.junk _ _ | exact TTle.same _ | refine TTle.node ?_ ?_ | refine TTle.leaf ?_ | exact AVle.junk _ | exact AVle.rfl' rfl | exact AVle.nilS | exact AVle.nilB | exact AVle.rfl' (congrArg (AV.own 22) (tail_row _ _)))
        · repeat' (first | exact OOle.none _ _ | exact OOle.same _ | refine OOle.node ?_ ?_ | exact OOle.leaf _ | exact OOle.gone _)
    · refine FinC.te (y := .agg [.int .i64 _, .slS _, .slS _]) rfl rfl ⟨trivial, trivial, trivial, trivial⟩ (congrArg (fun z => AV.agg [.int .i64 a, .slS (midL ls a (b - a + 1)), .slS z]) ?_)
      rw [h5, show i = b + 1 by omega, show b + 1 - a = b - a + 1 by omega]

set_option maxRecDepth 10000 in
set_option maxHeartbeats 8000000 in
theorem p112ti (ls : List (List UInt8)) (k fl fc tl tc : Int) (hL : ls.length ≤ 1000000000) (hB : ∀ n : Nat, (ls.getD n []).length ≤ 1000000000000) (hv : validL ls k fl fc tl tc = true) :
    Pure Tryd.prog 51 [.slS ls, .agg [.int .i64 k, .int .i64 fl, .int .i64 fc, .int .i64 tl, .int .i64 tc], .fn 52 [.cptr (.agg [.bool true]) 0, .cptr (.agg [.fn 49 []]) 0, .cptr (.agg [.bool true]) 0, .cptr (.agg [.fn 50 []]) 0]] (ChR.av ⟨true, fl, midL ls fl (tl - fl + 1), eachL (rowC true true ls k fl fc tl tc) fl (tl - fl + 1).toNat⟩) := by
  obtain ⟨hv1, hv2⟩ := validL_spec hv
  have k55 := p55 ls k fl fc tl tc
  rw [hv] at k55
  have k106 := each125ti ls k fl fc tl tc (rowC true true ls k fl fc tl tc) ls fl tl hL hv1.1 hv1.2.1 hv1.2.2 (fun i h1 h2 => p125ti ls k fl fc tl tc i hL hB hv h1 h2)
  refine Pure.ofT tab2_ok Tryd.func51 rfl rfl [.cell 6 31, .tmp 7] rfl (by decide) rfl ⟨22, 5, (.node (.node (.node (.node (.node (.leaf (.slS ls)) (J 0)) (J 1)) (J 2)) (.node (.node (.node (.leaf (.fn 52 [.cptr (.agg [.bool true]) 0, .cptr (.agg [.fn 49 []]) 0, .cptr (.agg [.bool true]) 0, .cptr (.agg [.fn 50 []]) 0])) (J 0)) (J 1)) (J 2))) (.node (.node (.node (.node (.leaf (.agg [.int .i64 k, .int .i64 fl, .int .i64 fc, .int .i64 tl, .int .i64 tc])) (J 0)) (J 1)) (J 2)) (J 3))), (OO 5)⟩ (by kernel_rfl) (by kernel_rfl) ?_
  repeat' (first
    | refine allProp_T ?_
    | exact trivial
    | (refine URun.id ?_; first
        | refine URun.nil ?_
        | refine URun.many tabs2 rfl rfl (by kernel_rfl) ?_ ?_
        | (refine URun.toCall 41 rfl ?_; first
          | refine URun.call tabs2 rfl rfl rfl rfl k55 rfl rfl ?_ rfl ?_)
        | (refine URun.toCall 42 rfl ?_; first
          | refine URun.call tabs2 rfl rfl rfl rfl k106 rfl rfl ?_ rfl ?_)
        | refine URun.same tabs2 rfl rfl rfl ?_
        | refine URun.same2 tabs2 rfl rfl rfl ?_
        | refine URun.split tabs2 rfl rfl rfl rfl (fun h => ?_) (fun h => ?_))
    | (refine TRun.id ?_; first
        | refine TRun.nil ?_
        | refine TRun.many rfl rfl (by kernel_rfl) ?_ ?_
        | (refine TRun.toCall 41 rfl ?_; first
          | refine TRun.call rfl rfl rfl rfl k55 rfl rfl ?_ rfl ?_)
        | (refine TRun.toCall 42 rfl ?_; first
          | refine TRun.call rfl rfl rfl rfl k106 rfl rfl ?_ rfl ?_)
        | refine TRun.same rfl rfl rfl ?_
        | refine TRun.same2 rfl rfl rfl ?_
        | refine TRun.split rfl rfl rfl rfl (fun h => ?_) (fun h => ?_))
    | (refine HoldsT.id ?_; first
        | refine HoldsT.seq ?_
        | refine HoldsT.regionU ?_
        | refine HoldsT.drawn tabs2 ?_
        | refine HoldsT.yes rfl ?_
        | refine HoldsT.no rfl ?_
        | refine HoldsT.cond rfl (fun h => ?_) (fun h => ?_)
        | refine HoldsT.block ?_
        | refine HoldsT.ret ?_
        | refine HoldsT.skip ?_
        | refine HoldsT.exit ?_)
    | (refine okTr_intro ?_; kernel_rfl)
    | exact absurd rfl h
    | (show isBox _ _ = true; exact rfl)
    | refine allProp_C ?_ ?_
    | refine And.intro ?_ ?_
    | omega
    | (show _ < List.length _; omega)
    | exact rowlen_intro rfl
    | exact lenEq_intro rfl
    | exact Nat.le_of_ble_eq_true rfl
    | (simp only [AV.rowlenD, AV.rowlen, AV.ncells, mulSz, toN, Option.map_some, Option.map_none, cutL, List.length_take, List.length_drop, List.length_append, List.length_cons, List.length_nil, List.length_set, Option.some.injEq, Int.reduceToNat] <;> omega))
  all_goals exact FinC.t (y := .tup [.agg [.int .i64 _, .slS _, .slS _], .bool _]) rfl rfl ⟨⟨trivial, trivial, trivial, trivial⟩, trivial, trivial⟩ (AVle.rfl' rfl)

set_option maxRecDepth 10000 in
set_option maxHeartbeats 8000000 in
theorem p91ti (ls : List (List UInt8)) (k fl fc tl tc : Int) (hL : ls.length ≤ 1000000000) (hB : ∀ n : Nat, (ls.getD n []).length ≤ 1000000000000) (hv : validL ls k fl fc tl tc = true) :
    Pure Tryd.prog 29 [.slS ls, .agg [.int .i64 k, .int .i64 fl, .int .i64 fc, .int .i64 tl, .int .i64 tc], .str [126]] (ChR.av ⟨true, fl, midL ls fl (tl - fl + 1), eachL (rowC true true ls k fl fc tl tc) fl (tl - fl + 1).toNat⟩) := by
  have k112 := p112ti ls k fl fc tl tc hL hB hv
  refine Pure.ofT tab2_ok Tryd.func29 rfl rfl [.cell 6 31, .tmp 7] rfl (by decide) rfl ⟨26, 5, (.node (.node (.node (.node (.node (.leaf (.slS ls)) (J 0)) (J 1)) (J 2)) (.node (.node (.node (.leaf (.str [126])) (J 0)) (J 1)) (J 2))) (.node (.node (.node (.node (.leaf (.agg [.int .i64 k, .int .i64 fl, .int .i64 fc, .int .i64 tl, .int .i64 tc])) (J 0)) (J 1)) (J 2)) (J 3))), (OO 5)⟩ (by kernel_rfl) (by kernel_rfl) ?_
  repeat' (first
    | refine allProp_T ?_
    | exact trivial
    | (refine URun.id ?_; first
        | refine URun.nil ?_
        | refine URun.many tabs2 rfl rfl (by kernel_rfl) ?_ ?_
        | (refine URun.toCall 51 rfl ?_; first
          | refine URun.call tabs2 rfl rfl rfl rfl k112 rfl rfl ?_ rfl ?_)
        | refine URun.same tabs2 rfl rfl rfl ?_
        | refine URun.same2 tabs2 rfl rfl rfl ?_
        | refine URun.yes tabs2 rfl rfl rfl rfl ?_
        | refine URun.no tabs2 rfl rfl rfl rfl ?_
        | refine URun.yes tabs2 rfl rfl (by decide) rfl ?_
        | refine URun.no tabs2 rfl rfl (by decide) rfl ?_
        | refine URun.split tabs2 rfl rfl rfl rfl (fun h => ?_) (fun h => ?_))
    | (refine TRun.id ?_; first
        | refine TRun.nil ?_
        | refine TRun.many rfl rfl (by kernel_rfl) ?_ ?_
        | (refine TRun.toCall 51 rfl ?_; first
          | refine TRun.call rfl rfl rfl rfl k112 rfl rfl ?_ rfl ?_)
        | refine TRun.same rfl rfl rfl ?_
        | refine TRun.same2 rfl rfl rfl ?_
        | refine TRun.yes rfl rfl rfl rfl ?_
        | refine TRun.no rfl rfl rfl rfl ?_
        | refine TRun.yes rfl rfl (by decide) rfl ?_
        | refine TRun.no rfl rfl (by decide) rfl ?_
        | refine TRun.split rfl rfl rfl rfl (fun h => ?_) (fun h => ?_))
    | (refine HoldsT.id ?_; first
        | refine HoldsT.seq ?_
        | refine HoldsT.regionU ?_
        | refine HoldsT.drawn tabs2 ?_
        | refine HoldsT.yes rfl ?_
        | refine HoldsT.no rfl ?_
        | refine HoldsT.cond rfl (fun h => ?_) (fun h => ?_)
        | refine HoldsT.block ?_
        | refine HoldsT.ret ?_
        | refine HoldsT.skip ?_
        | refine HoldsT.exit ?_)
    | (refine okTr_intro ?_; kernel_rfl)
    | exact absurd rfl h
    | (show isBox _ _ = true; exact rfl)
    | refine allProp_C ?_ ?_
    | refine And.intro ?_ ?_
    | omega
    | (show _ < List.length _; omega)
    | exact rowlen_intro rfl
    | exact lenEq_intro rfl
    | exact Nat.le_of_ble_eq_true rfl
    | (simp only [AV.rowlenD, AV.rowlen, AV.ncells, mulSz, toN, Option.map_some, Option.map_none, cutL, List.length_take, List.length_drop, List.length_append, List.length_cons, List.length_nil, List.length_set, Option.some.injEq, Int.reduceToNat] <;> omega))
  all_goals exact FinC.t (y := .tup [.agg [.int .i64 _, .slS _, .slS _], .bool _]) rfl rfl ⟨⟨trivial, trivial, trivial, trivial⟩, trivial, trivial⟩ (AVle.rfl' rfl)


theorem case_back (x : UInt8) : caseB true true (caseB true true x) = x := by
  have hx := x.toNat_lt
  apply u8_ext
  rw [caseB_nat, caseB_nat]
  unfold caseK smallK capK
  simp only [decide_eq_true_eq, true_and]
  (repeat' split) <;> omega
theorem turn_back {f : UInt8 → UInt8} (hf : ∀ x, f (f x) = x) (s : List UInt8) (a b : Nat) : turnL f (turnL f s a b) a b = s := by
  apply List.ext_getElem (by simp [turn_len])
  intro i h1 h2
  simp only [turnL, List.getElem_mapIdx]
  split
  · exact hf _
  · rfl
/-- A range whose letters are turned twice is as it was. -/
theorem case_undone {ls : List (List UInt8)} {k fl fc tl tc : Int} (hv : validL ls k fl fc tl tc = true) {now : List (List UInt8)} (hl : now.length = ls.length) (h1 : ∀ i : Nat, (now.getD i []).length = (ls.getD i []).length) (h2 : ∀ i : Nat, fl ≤ (i : Int) → (i : Int) ≤ tl → now.getD i [] = rowC true true ls k fl fc tl tc i) :
    eachL (rowC true true now k fl fc tl tc) fl (tl - fl + 1).toNat = midL ls fl (tl - fl + 1) := by
  obtain ⟨hv1, hv2⟩ := validL_spec hv
  rw [eachL_map, mid_map hv1.1 (by omega) (by omega)]
  apply List.map_congr_left
  intro i hi
  have hi := List.mem_range.1 hi
  have e := h2 (fl + (i : Nat)).toNat (by omega) (by omega)
  unfold rowC
  rw [colF_congr h1, colT_congr h1, e]
  unfold rowC
  rw [show ((fl + (i : Nat)).toNat : Int) = fl + (i : Nat) by omega]
  exact turn_back case_back _ _ _

end Go.Proofs.YtefbgdnobnemkaaDoor.AM
