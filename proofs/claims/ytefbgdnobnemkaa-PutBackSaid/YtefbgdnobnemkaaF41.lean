/-
  Lines whose letters are turned.
-/
import Derived.Test.YtefbgdnobnemkaaF40
import Derived.Test.YtefbgdnobnemkaaF35
set_option linter.unusedSimpArgs false
set_option linter.unusedVariables false
set_option linter.unusedSectionVars false
namespace Go.Proofs.Ytefbgdnobnemkaa.AM
open Go Go.RowKit

/-- The bytes from a on, up to b, are turned. -/
def turnL (f : UInt8 → UInt8) (s : List UInt8) (a b : Nat) : List UInt8 := s.mapIdx fun i x => if a ≤ i ∧ i < b then f x else x
theorem turn_len (f : UInt8 → UInt8) (s : List UInt8) (a b : Nat) : (turnL f s a b).length = s.length := by simp [turnL]
theorem turn_none (f : UInt8 → UInt8) (s : List UInt8) (a : Nat) : turnL f s a a = s := by
  apply List.ext_getElem (turn_len _ _ _ _)
  intro i h1 h2
  simp only [turnL, List.getElem_mapIdx]
  rw [if_neg (by omega)]
theorem turn_step (f : UInt8 → UInt8) (s : List UInt8) {a j : Nat} (h1 : a ≤ j) (h2 : j < s.length) : (turnL f s a j).set j (f ((turnL f s a j).getD j 0)) = turnL f s a (j + 1) := by
  have hl := turn_len f s a j
  apply List.ext_getElem (by simp [turn_len])
  intro i g1 g2
  rw [List.getElem_set]
  split
  · rename_i e
    subst e
    rw [List.getD_eq_getElem?_getD, List.getElem?_eq_getElem (by omega)]
    simp only [turnL, List.getElem_mapIdx, Option.getD_some]
    rw [if_neg (show ¬ (a ≤ j ∧ j < j) by omega), if_pos (by omega)]
  · simp only [turnL, List.getElem_mapIdx]
    by_cases c : a ≤ i ∧ i < j
    · rw [if_pos c, if_pos (by omega)]
    · rw [if_neg c, if_neg (by omega)]
def caseB (up dn : Bool) (x : UInt8) : UInt8 := UInt8.ofNat (caseK up dn (x.toNat : Int)).toNat
theorem case_in (up dn : Bool) {k : Int} (hk : inK .u8 k) : inK .u8 (caseK up dn k) := by
  have hk0 : 0 ≤ k ∧ k ≤ 255 := hk
  show 0 ≤ caseK up dn k ∧ caseK up dn k ≤ 255
  unfold caseK smallK capK
  simp only [decide_eq_true_eq]
  split
  · omega
  · split <;> omega
/-- A line of a range whose letters are turned. -/
def rowC (up dn : Bool) (ls : List (List UInt8)) (k fl fc tl tc i : Int) : List UInt8 := turnL (caseB up dn) (ls.getD i.toNat []) (colF ls k fl fc i).toNat (colT ls k tl tc i).toNat

def sh125ca (l0 : List (List UInt8)) (k fl fc tl tc : Int) (i : Int) (d : List UInt8) (t j : Int) : TS := ⟨39, 6, (.node (.node (.node (.node (.node (.node (.leaf (.int .i64 i)) (J 0)) (J 1)) (.node (.node (.leaf (.int .i64 t)) (J 0)) (J 1))) (J 3)) (.node (.node (.node (.node (.leaf (.cptr (.agg [.int .i64 k, .int .i64 fl, .int .i64 fc, .int .i64 tl, .int .i64 tc]) 0)) (J 0)) (J 1)) (J 2)) (.node (.node (.node (.leaf (.own 14 d.length)) (J 0)) (J 1)) (J 2)))) (.node (.node (.node (.node (.node (.leaf (.cptr (.agg [.slS l0]) 0)) (J 0)) (J 1)) (.node (.node (.leaf (.int .i64 j)) (J 0)) (J 1))) (J 3)) (.node (.node (.node (.node (.leaf (.cptr (.agg [.fn 113 [.cptr (.agg [.bool true]) 0, .cptr (.agg [.fn 110 []]) 0, .cptr (.agg [.bool false]) 0, .cptr (.agg [.fn 111 []]) 0]]) 0)) (J 0)) (J 1)) (J 2)) (J 3)))), (.node (.node (OO 4) (.node (OO 3) (.node (OO 2) (.node (.node (.leaf (some ⟨true, false, .slB d, 5⟩)) (OO 0)) (OO 1))))) (OO 5))⟩
set_option maxRecDepth 10000 in
set_option maxHeartbeats 8000000 in
theorem p125ca (l0 : List (List UInt8)) (k fl fc tl tc : Int) (i : Int) (hL : l0.length ≤ 1000000000) (hB : ∀ n : Nat, (l0.getD n []).length ≤ 1000000000000) (h : validL l0 k fl fc tl tc = true) (h1 : fl ≤ i) (h2 : i ≤ tl) :
    Pure Try.prog 125 [.int .i64 i, .cptr (.agg [.slS l0]) 0, .cptr (.agg [.int .i64 k, .int .i64 fl, .int .i64 fc, .int .i64 tl, .int .i64 tc]) 0, .cptr (.agg [.fn 113 [.cptr (.agg [.bool true]) 0, .cptr (.agg [.fn 110 []]) 0, .cptr (.agg [.bool false]) 0, .cptr (.agg [.fn 111 []]) 0]]) 0] (.str (rowC true false l0 k fl fc tl tc i)) := by
  obtain ⟨hv1, hv2⟩ := validL_spec h
  have hb := hB i.toNat
  obtain ⟨c1, c2, c3⟩ := cols_ok h h1 h2
  have c3 : colT l0 k tl tc i ≤ ((l0.getD i.toNat []).length : Int) := c3
  have k56 := p56 l0 k fl fc tl tc i (by omega) (by omega) hB (by omega)
  unfold rowC
  generalize colF l0 k fl fc i = p at *
  generalize colT l0 k tl tc i = q at *
  refine Pure.ofT tab2_ok Try.func125 rfl rfl [.tmp 5] rfl (by decide) rfl ⟨39, 6, (.node (.node (.node (.node (.node (.node (.leaf (.int .i64 i)) (J 0)) (J 1)) (J 2)) (J 3)) (.node (.node (.node (.node (.leaf (.cptr (.agg [.int .i64 k, .int .i64 fl, .int .i64 fc, .int .i64 tl, .int .i64 tc]) 0)) (J 0)) (J 1)) (J 2)) (J 3))) (.node (.node (.node (.node (.node (.leaf (.cptr (.agg [.slS l0]) 0)) (J 0)) (J 1)) (J 2)) (J 3)) (.node (.node (.node (.node (.leaf (.cptr (.agg [.fn 113 [.cptr (.agg [.bool true]) 0, .cptr (.agg [.fn 110 []]) 0, .cptr (.agg [.bool false]) 0, .cptr (.agg [.fn 111 []]) 0]]) 0)) (J 0)) (J 1)) (J 2)) (J 3)))), (OO 6)⟩ (by kernel_rfl) (by kernel_rfl) ?_
  repeat' (first
    | refine allProp_T ?_
    | exact trivial
    | (refine URun.id ?_; first
        | refine URun.nil ?_
        | refine URun.many tabs2 rfl rfl (by kernel_rfl) ?_ ?_
        | (refine URun.toCall 56 rfl ?_; first
          | refine URun.call tabs2 rfl rfl rfl rfl k56 rfl rfl ?_ rfl ?_)
        | refine URun.same tabs2 rfl rfl rfl ?_
        | refine URun.same2 tabs2 rfl rfl rfl ?_
        | refine URun.split tabs2 rfl rfl rfl rfl (fun h => ?_) (fun h => ?_))
    | (refine TRun.id ?_; first
        | refine TRun.nil ?_
        | refine TRun.many rfl rfl (by kernel_rfl) ?_ ?_
        | (refine TRun.toCall 56 rfl ?_; first
          | refine TRun.call rfl rfl rfl rfl k56 rfl rfl ?_ rfl ?_)
        | refine TRun.same rfl rfl rfl ?_
        | refine TRun.same2 rfl rfl rfl ?_
        | refine TRun.split rfl rfl rfl rfl (fun h => ?_) (fun h => ?_))
    | (refine HoldsT.id ?_; first
        | refine HoldsT.seq ?_
        | refine HoldsT.regionU ?_
        | refine HoldsT.drawn tabs2 ?_
        | refine HoldsT.yes rfl ?_
        | refine HoldsT.no rfl ?_
        | refine HoldsT.cond rfl (fun h => ?_) (fun h => ?_)
        | refine HoldsT.block ?_
        | refine HoldsT.ret ?_
        | refine HoldsT.skip ?_
        | refine HoldsT.exit ?_)
    | (refine okTr_intro ?_; kernel_rfl)
    | exact absurd rfl h
    | refine allProp_C ?_ ?_
    | refine And.intro ?_ ?_
    | omega
    | (show _ < List.length _; omega)
    | exact rowlen_intro rfl
    | exact lenEq_intro rfl
    | exact Nat.le_of_ble_eq_true rfl
    | (simp only [AV.rowlenD, AV.rowlen, AV.ncells, mulSz, toN, Option.map_some, Option.map_none, cutL, List.length_take, List.length_drop, List.length_append, List.length_cons, List.length_nil, List.length_set, Option.some.injEq, Int.reduceToNat] <;> omega))
  refine HoldsT.loop (fun x : Int × List UInt8 => sh125ca l0 k fl fc tl tc i x.2 q x.1) (fun x => (q - x.1).toNat) (fun x => p ≤ x.1 ∧ x.1 ≤ q ∧ x.2 = turnL (caseB true false) (l0.getD i.toNat []) p.toNat x.1.toNat) (p, l0.getD i.toNat []) ?_ ?_ (fun _ => by kernel_rfl) ?_
  · refine WeakT.of ?_ ?_ (by kernel_rfl)
    · repeat' (first | exact TTle.junk _ _ | exact TTle.same _ | refine TTle.node ?_ ?_ | refine TTle.leaf ?_ | exact AVle.junk _ | exact AVle.rfl' rfl | exact AVle.nilS | exact AVle.nilB)
    · repeat' (first | exact OOle.none _ _ | exact OOle.same _ | refine OOle.node ?_ ?_ | exact OOle.leaf _ | exact OOle.gone _)
  · exact ⟨by simp, by simp only; omega, (turn_none _ _ _).symm⟩
  · intro x hx
    obtain ⟨j, d⟩ := x
    obtain ⟨g1, g2, g3⟩ := hx
    simp only at g1 g2 g3
    have hd : d.length = (l0.getD i.toNat []).length := by rw [g3]; exact turn_len _ _ _ _
    have k113 := p113_tf ((d.getD j.toNat 0).toNat : Int) (u8_in _)
    have hin := case_in true false (u8_in (d.getD j.toNat 0))
    show HoldsT Try.prog _ (sh125ca l0 k fl fc tl tc i d q j) _
    repeat' (first
      | refine allProp_T ?_
      | exact trivial
      | (refine URun.id ?_; first
          | refine URun.nil ?_
          | refine URun.many tabs2 rfl rfl (by kernel_rfl) ?_ ?_
          | (refine URun.toCall 113 rfl ?_; first
            | refine URun.call tabs2 rfl rfl rfl rfl k113 rfl rfl ?_ rfl ?_)
          | refine URun.same tabs2 rfl rfl rfl ?_
          | refine URun.same2 tabs2 rfl rfl rfl ?_
          | refine URun.split tabs2 rfl rfl rfl rfl (fun h => ?_) (fun h => ?_))
      | (refine TRun.id ?_; first
          | refine TRun.nil ?_
          | refine TRun.many rfl rfl (by kernel_rfl) ?_ ?_
          | (refine TRun.toCall 113 rfl ?_; first
            | refine TRun.call rfl rfl rfl rfl k113 rfl rfl ?_ rfl ?_)
          | refine TRun.same rfl rfl rfl ?_
          | refine TRun.same2 rfl rfl rfl ?_
          | refine TRun.split rfl rfl rfl rfl (fun h => ?_) (fun h => ?_))
      | (refine HoldsT.id ?_; first
          | refine HoldsT.seq ?_
          | refine HoldsT.regionU ?_
          | refine HoldsT.drawn tabs2 ?_
          | refine HoldsT.yes rfl ?_
          | refine HoldsT.no rfl ?_
          | refine HoldsT.cond rfl (fun h => ?_) (fun h => ?_)
          | refine HoldsT.block ?_
          | refine HoldsT.ret ?_
          | refine HoldsT.skip ?_
          | refine HoldsT.exit ?_)
      | (refine okTr_intro ?_; kernel_rfl)
      | exact absurd rfl h
      | exact hin
      | refine allProp_C ?_ ?_
      | refine And.intro ?_ ?_
      | omega
      | (show _ < List.length _; omega)
      | exact rowlen_intro rfl
      | exact lenEq_intro rfl
      | exact Nat.le_of_ble_eq_true rfl
      | (simp only [AV.rowlenD, AV.rowlen, AV.ncells, mulSz, toN, Option.map_some, Option.map_none, cutL, List.length_take, List.length_drop, List.length_append, List.length_cons, List.length_nil, List.length_set, Option.some.injEq, Int.reduceToNat] <;> omega))
    · refine ⟨(j + 1, d.set j.toNat (caseB true false (d.getD j.toNat 0))), ⟨by simp only at *; omega, by simp only at *; omega, by simp only at *; omega, ?_⟩, ?_⟩
      · simp only
        rw [g3, show (j + 1).toNat = j.toNat + 1 by omega]
        exact turn_step _ _ (by omega) (by omega)
      · refine WeakT.of ?_ ?_ (by kernel_rfl)
        · repeat' (first | exact TTle.junk _ _ | exact TTle.same _ | refine TTle.node ?_ ?_ | refine TTle.leaf ?_ | exact AVle.junk _ | exact AVle.rfl' rfl | exact AVle.nilS | exact AVle.nilB | exact AVle.rfl' (congrArg (AV.own 14) (List.length_set ..).symm))
        · repeat' (first | exact OOle.none _ _ | exact OOle.same _ | refine OOle.node ?_ ?_ | exact OOle.leaf _ | exact OOle.gone _)
    · refine FinC.te (y := .str _) rfl rfl trivial (congrArg AV.str ?_)
      rw [g3, show j = q by omega]

def each125ca_sh (l0 : List (List UInt8)) (k fl fc tl tc : Int) (ls : List (List UInt8)) (a b i : Int) (out : List (List UInt8)) : TS := ⟨31, 5, (.node (.node (.node (.node (.node (.leaf (.slS ls)) (J 0)) (.node (.leaf (.ptr 8 0)) (J 0))) (J 2)) (.node (.node (.node (.leaf (.int .i64 b)) (J 0)) (.node (.leaf (.int .i64 i)) (J 0))) (J 2))) (.node (.node (.node (.node (.leaf (.int .i64 a)) (J 0)) (.node (.leaf (.own 22 out.length)) (J 0))) (J 2)) (.node (.node (.node (.leaf (.fn 125 [.cptr (.agg [.slS l0]) 0, .cptr (.agg [.int .i64 k, .int .i64 fl, .int .i64 fc, .int .i64 tl, .int .i64 tc]) 0, .cptr (.agg [.fn 113 [.cptr (.agg [.bool true]) 0, .cptr (.agg [.fn 110 []]) 0, .cptr (.agg [.bool false]) 0, .cptr (.agg [.fn 111 []]) 0]]) 0])) (J 0)) (J 1)) (J 2)))), (.node (.node (.node (.node (OO 1) (.node (.leaf (some ⟨true, false, .agg [.int .i64 0, .nilsl, .nilsl], 47⟩)) (OO 0))) (OO 2)) (.node (OO 2) (.node (.node (OO 0) (.leaf (some ⟨true, true, .slS out, 9⟩))) (OO 1)))) (OO 4))⟩

set_option maxRecDepth 10000 in
set_option maxHeartbeats 8000000 in
theorem each125ca (l0 : List (List UInt8)) (k fl fc tl tc : Int) (F : Int → List UInt8) (ls : List (List UInt8)) (a b : Int) (hL : ls.length ≤ 1000000000) (h0 : 0 ≤ a) (h1 : a ≤ b) (h2 : b < ls.length)
    (hF : ∀ i, a ≤ i → i ≤ b → Pure Try.prog 125 [.int .i64 i, .cptr (.agg [.slS l0]) 0, .cptr (.agg [.int .i64 k, .int .i64 fl, .int .i64 fc, .int .i64 tl, .int .i64 tc]) 0, .cptr (.agg [.fn 113 [.cptr (.agg [.bool true]) 0, .cptr (.agg [.fn 110 []]) 0, .cptr (.agg [.bool false]) 0, .cptr (.agg [.fn 111 []]) 0]]) 0] (.str (F i))) :
    Pure Try.prog 106 [.slS ls, .int .i64 a, .int .i64 b, .fn 125 [.cptr (.agg [.slS l0]) 0, .cptr (.agg [.int .i64 k, .int .i64 fl, .int .i64 fc, .int .i64 tl, .int .i64 tc]) 0, .cptr (.agg [.fn 113 [.cptr (.agg [.bool true]) 0, .cptr (.agg [.fn 110 []]) 0, .cptr (.agg [.bool false]) 0, .cptr (.agg [.fn 111 []]) 0]]) 0]] (.agg [.int .i64 a, .slS (midL ls a (b - a + 1)), .slS (eachL F a (b - a + 1).toNat)]) := by
  refine Pure.ofT tab2_ok Try.func106 rfl rfl [.cell 8 47] rfl (by decide) rfl ⟨31, 5, (.node (.node (.node (.node (.node (.leaf (.slS ls)) (J 0)) (J 1)) (J 2)) (.node (.node (.node (.leaf (.int .i64 b)) (J 0)) (J 1)) (J 2))) (.node (.node (.node (.node (.leaf (.int .i64 a)) (J 0)) (J 1)) (J 2)) (.node (.node (.node (.leaf (.fn 125 [.cptr (.agg [.slS l0]) 0, .cptr (.agg [.int .i64 k, .int .i64 fl, .int .i64 fc, .int .i64 tl, .int .i64 tc]) 0, .cptr (.agg [.fn 113 [.cptr (.agg [.bool true]) 0, .cptr (.agg [.fn 110 []]) 0, .cptr (.agg [.bool false]) 0, .cptr (.agg [.fn 111 []]) 0]]) 0])) (J 0)) (J 1)) (J 2)))), (OO 5)⟩ (by kernel_rfl) (by kernel_rfl) ?_
  repeat' (first
    | refine allProp_T ?_
    | exact trivial
    | (refine URun.id ?_; first
        | refine URun.nil ?_
        | refine URun.many tabs2 rfl rfl (by kernel_rfl) ?_ ?_
        | refine URun.same tabs2 rfl rfl rfl ?_
        | refine URun.same2 tabs2 rfl rfl rfl ?_
        | refine URun.split tabs2 rfl rfl rfl rfl (fun h => ?_) (fun h => ?_))
    | (refine TRun.id ?_; first
        | refine TRun.nil ?_
        | refine TRun.many rfl rfl (by kernel_rfl) ?_ ?_
        | refine TRun.same rfl rfl rfl ?_
        | refine TRun.same2 rfl rfl rfl ?_
        | refine TRun.split rfl rfl rfl rfl (fun h => ?_) (fun h => ?_))
    | (refine HoldsT.id ?_; first
        | refine HoldsT.seq ?_
        | refine HoldsT.regionU ?_
        | refine HoldsT.drawn tabs2 ?_
        | refine HoldsT.yes rfl ?_
        | refine HoldsT.no rfl ?_
        | refine HoldsT.cond rfl (fun h => ?_) (fun h => ?_)
        | refine HoldsT.block ?_
        | refine HoldsT.ret ?_
        | refine HoldsT.skip ?_
        | refine HoldsT.exit ?_)
    | (refine okTr_intro ?_; kernel_rfl)
    | exact absurd rfl h
    | refine allProp_C ?_ ?_
    | refine And.intro ?_ ?_
    | omega
    | (show _ < List.length _; omega)
    | exact rowlen_intro rfl
    | exact lenEq_intro rfl
    | exact Nat.le_of_ble_eq_true rfl
    | (simp only [AV.rowlenD, AV.rowlen, AV.ncells, mulSz, toN, Option.map_some, Option.map_none, cutL, List.length_take, List.length_drop, List.length_append, List.length_cons, List.length_nil, List.length_set, Option.some.injEq, Int.reduceToNat] <;> omega))
  refine HoldsT.loop (fun x : Int × List (List UInt8) => each125ca_sh l0 k fl fc tl tc ls a b x.1 x.2) (fun x => (b + 1 - x.1).toNat) (fun x => a ≤ x.1 ∧ x.1 ≤ b + 1 ∧ x.2 = eachL F a (x.1 - a).toNat) (a, []) ?_ ?_ (fun _ => by kernel_rfl) ?_
  · refine (WeakT.canon 9 22 9 (.slS []) rfl rfl rfl (by kernel_rfl) rfl).trans ?_
    refine WeakT.of ?_ ?_ (by kernel_rfl)
    · repeat' (first | exact TTle.junk _ _ | exact TTle.same _ | refine TTle.node ?_ ?_ | refine TTle.leaf ?_ | exact AVle.junk _ | exact AVle.rfl' rfl | exact AVle.nilS | exact AVle.nilB)
    · repeat' (first | exact OOle.none _ _ | exact OOle.same _ | refine OOle.node ?_ ?_ | exact OOle.leaf _ | exact OOle.gone _)
  · exact ⟨by simp, by simp only; omega, by simp [eachL]⟩
  · intro x hx
    obtain ⟨i, out⟩ := x
    obtain ⟨h3, h4, h5⟩ := hx
    simp only at h3 h4 h5
    have hlen : out.length = (i - a).toNat := by rw [h5]; exact eachL_length _ _ _
    have k80 := p80 ls out a (b - a + 1) (by omega) h0 (by omega) (by omega)
    show HoldsT Try.prog _ (each125ca_sh l0 k fl fc tl tc ls a b i out) _
    repeat' (first
      | refine allProp_T ?_
      | exact trivial
      | (refine URun.id ?_; first
          | refine URun.nil ?_
          | refine URun.many tabs2 rfl rfl (by kernel_rfl) ?_ ?_
          | (refine URun.toCall 125 rfl ?_; first
            | refine URun.call tabs2 rfl rfl rfl rfl (hF i (by omega) (by omega)) rfl rfl ?_ rfl ?_)
          | (refine URun.toCall 80 rfl ?_; first
            | refine URun.call tabs2 rfl rfl rfl rfl k80 rfl rfl ?_ rfl ?_)
          | refine URun.same tabs2 rfl rfl rfl ?_
          | refine URun.same2 tabs2 rfl rfl rfl ?_
          | refine URun.split tabs2 rfl rfl rfl rfl (fun h => ?_) (fun h => ?_))
      | (refine TRun.id ?_; first
          | refine TRun.nil ?_
          | refine TRun.many rfl rfl (by kernel_rfl) ?_ ?_
          | (refine TRun.toCall 125 rfl ?_; first
            | refine TRun.call rfl rfl rfl rfl (hF i (by omega) (by omega)) rfl rfl ?_ rfl ?_)
          | (refine TRun.toCall 80 rfl ?_; first
            | refine TRun.call rfl rfl rfl rfl k80 rfl rfl ?_ rfl ?_)
          | refine TRun.same rfl rfl rfl ?_
          | refine TRun.same2 rfl rfl rfl ?_
          | refine TRun.split rfl rfl rfl rfl (fun h => ?_) (fun h => ?_))
      | (refine HoldsT.id ?_; first
          | refine HoldsT.seq ?_
          | refine HoldsT.regionU ?_
          | refine HoldsT.drawn tabs2 ?_
          | refine HoldsT.yes rfl ?_
          | refine HoldsT.no rfl ?_
          | refine HoldsT.cond rfl (fun h => ?_) (fun h => ?_)
          | refine HoldsT.block ?_
          | refine HoldsT.ret ?_
          | refine HoldsT.skip ?_
          | refine HoldsT.exit ?_)
      | (refine okTr_intro ?_; kernel_rfl)
      | exact absurd rfl h
      | refine allProp_C ?_ ?_
      | refine And.intro ?_ ?_
      | omega
      | (show _ < List.length _; omega)
      | exact rowlen_intro rfl
      | exact lenEq_intro rfl
      | exact Nat.le_of_ble_eq_true rfl
      | (simp only [AV.rowlenD, AV.rowlen, AV.ncells, mulSz, toN, Option.map_some, Option.map_none, cutL, List.length_take, List.length_drop, List.length_append, List.length_cons, List.length_nil, List.length_set, Option.some.injEq, Int.reduceToNat] <;> omega))
    · refine ⟨(i + 1, out ++ [F i]), ⟨by simp only at *; omega, by simp only at *; omega, by simp only at *; omega, ?_⟩, ?_⟩
      · simp only
        rw [show (i + 1 - a).toNat = (i - a).toNat + 1 by omega, eachL, ← h5, show a + ((i - a).toNat : Int) = i by omega]
      · refine WeakT.of ?_ ?_ (by kernel_rfl)
        · repeat' (first | exact TTle.junk _ _ | exact TTle.same _ | refine TTle.node ?_ ?_ | refine TTle.leaf ?_ | exact AVle.junk _ | exact AVle.rfl' rfl | exact AVle.nilS | exact AVle.nilB | exact AVle.rfl' (congrArg (AV.own 22) (tail_row _ _)))
        · repeat' (first | exact OOle.none _ _ | exact OOle.same _ | refine OOle.node ?_ ?_ | exact OOle.leaf _ | exact OOle.gone _)
    · refine FinC.te (y := .agg [.int .i64 _, .slS _, .slS _]) rfl rfl ⟨trivial, trivial, trivial, trivial⟩ (congrArg (fun z => AV.agg [.int .i64 a, .slS (midL ls a (b - a + 1)), .slS z]) ?_)
      rw [h5, show i = b + 1 by omega, show b + 1 - a = b - a + 1 by omega]

def sh125sm (l0 : List (List UInt8)) (k fl fc tl tc : Int) (i : Int) (d : List UInt8) (t j : Int) : TS := ⟨39, 6, (.node (.node (.node (.node (.node (.node (.leaf (.int .i64 i)) (J 0)) (J 1)) (.node (.node (.leaf (.int .i64 t)) (J 0)) (J 1))) (J 3)) (.node (.node (.node (.node (.leaf (.cptr (.agg [.int .i64 k, .int .i64 fl, .int .i64 fc, .int .i64 tl, .int .i64 tc]) 0)) (J 0)) (J 1)) (J 2)) (.node (.node (.node (.leaf (.own 14 d.length)) (J 0)) (J 1)) (J 2)))) (.node (.node (.node (.node (.node (.leaf (.cptr (.agg [.slS l0]) 0)) (J 0)) (J 1)) (.node (.node (.leaf (.int .i64 j)) (J 0)) (J 1))) (J 3)) (.node (.node (.node (.node (.leaf (.cptr (.agg [.fn 113 [.cptr (.agg [.bool false]) 0, .cptr (.agg [.fn 110 []]) 0, .cptr (.agg [.bool true]) 0, .cptr (.agg [.fn 111 []]) 0]]) 0)) (J 0)) (J 1)) (J 2)) (J 3)))), (.node (.node (OO 4) (.node (OO 3) (.node (OO 2) (.node (.node (.leaf (some ⟨true, false, .slB d, 5⟩)) (OO 0)) (OO 1))))) (OO 5))⟩
set_option maxRecDepth 10000 in
set_option maxHeartbeats 8000000 in
theorem p125sm (l0 : List (List UInt8)) (k fl fc tl tc : Int) (i : Int) (hL : l0.length ≤ 1000000000) (hB : ∀ n : Nat, (l0.getD n []).length ≤ 1000000000000) (h : validL l0 k fl fc tl tc = true) (h1 : fl ≤ i) (h2 : i ≤ tl) :
    Pure Try.prog 125 [.int .i64 i, .cptr (.agg [.slS l0]) 0, .cptr (.agg [.int .i64 k, .int .i64 fl, .int .i64 fc, .int .i64 tl, .int .i64 tc]) 0, .cptr (.agg [.fn 113 [.cptr (.agg [.bool false]) 0, .cptr (.agg [.fn 110 []]) 0, .cptr (.agg [.bool true]) 0, .cptr (.agg [.fn 111 []]) 0]]) 0] (.str (rowC false true l0 k fl fc tl tc i)) := by
  obtain ⟨hv1, hv2⟩ := validL_spec h
  have hb := hB i.toNat
  obtain ⟨c1, c2, c3⟩ := cols_ok h h1 h2
  have c3 : colT l0 k tl tc i ≤ ((l0.getD i.toNat []).length : Int) := c3
  have k56 := p56 l0 k fl fc tl tc i (by omega) (by omega) hB (by omega)
  unfold rowC
  generalize colF l0 k fl fc i = p at *
  generalize colT l0 k tl tc i = q at *
  refine Pure.ofT tab2_ok Try.func125 rfl rfl [.tmp 5] rfl (by decide) rfl ⟨39, 6, (.node (.node (.node (.node (.node (.node (.leaf (.int .i64 i)) (J 0)) (J 1)) (J 2)) (J 3)) (.node (.node (.node (.node (.leaf (.cptr (.agg [.int .i64 k, .int .i64 fl, .int .i64 fc, .int .i64 tl, .int .i64 tc]) 0)) (J 0)) (J 1)) (J 2)) (J 3))) (.node (.node (.node (.node (.node (.leaf (.cptr (.agg [.slS l0]) 0)) (J 0)) (J 1)) (J 2)) (J 3)) (.node (.node (.node (.node (.leaf (.cptr (.agg [.fn 113 [.cptr (.agg [.bool false]) 0, .cptr (.agg [.fn 110 []]) 0, .cptr (.agg [.bool true]) 0, .cptr (.agg [.fn 111 []]) 0]]) 0)) (J 0)) (J 1)) (J 2)) (J 3)))), (OO 6)⟩ (by kernel_rfl) (by kernel_rfl) ?_
  repeat' (first
    | refine allProp_T ?_
    | exact trivial
    | (refine URun.id ?_; first
        | refine URun.nil ?_
        | refine URun.many tabs2 rfl rfl (by kernel_rfl) ?_ ?_
        | (refine URun.toCall 56 rfl ?_; first
          | refine URun.call tabs2 rfl rfl rfl rfl k56 rfl rfl ?_ rfl ?_)
        | refine URun.same tabs2 rfl rfl rfl ?_
        | refine URun.same2 tabs2 rfl rfl rfl ?_
        | refine URun.split tabs2 rfl rfl rfl rfl (fun h => ?_) (fun h => ?_))
    | (refine TRun.id ?_; first
        | refine TRun.nil ?_
        | refine TRun.many rfl rfl (by kernel_rfl) ?_ ?_
        | (refine TRun.toCall 56 rfl ?_; first
          | refine TRun.call rfl rfl rfl rfl k56 rfl rfl ?_ rfl ?_)
        | refine TRun.same rfl rfl rfl ?_
        | refine TRun.same2 rfl rfl rfl ?_
        | refine TRun.split rfl rfl rfl rfl (fun h => ?_) (fun h => ?_))
    | (refine HoldsT.id ?_; first
        | refine HoldsT.seq ?_
        | refine HoldsT.regionU ?_
        | refine HoldsT.drawn tabs2 ?_
        | refine HoldsT.yes rfl ?_
        | refine HoldsT.no rfl ?_
        | refine HoldsT.cond rfl (fun h => ?_) (fun h => ?_)
        | refine HoldsT.block ?_
        | refine HoldsT.ret ?_
        | refine HoldsT.skip ?_
        | refine HoldsT.exit ?_)
    | (refine okTr_intro ?_; kernel_rfl)
    | exact absurd rfl h
    | refine allProp_C ?_ ?_
    | refine And.intro ?_ ?_
    | omega
    | (show _ < List.length _; omega)
    | exact rowlen_intro rfl
    | exact lenEq_intro rfl
    | exact Nat.le_of_ble_eq_true rfl
    | (simp only [AV.rowlenD, AV.rowlen, AV.ncells, mulSz, toN, Option.map_some, Option.map_none, cutL, List.length_take, List.length_drop, List.length_append, List.length_cons, List.length_nil, List.length_set, Option.some.injEq, Int.reduceToNat] <;> omega))
  refine HoldsT.loop (fun x : Int × List UInt8 => sh125sm l0 k fl fc tl tc i x.2 q x.1) (fun x => (q - x.1).toNat) (fun x => p ≤ x.1 ∧ x.1 ≤ q ∧ x.2 = turnL (caseB false true) (l0.getD i.toNat []) p.toNat x.1.toNat) (p, l0.getD i.toNat []) ?_ ?_ (fun _ => by kernel_rfl) ?_
  · refine WeakT.of ?_ ?_ (by kernel_rfl)
    · repeat' (first | exact TTle.junk _ _ | exact TTle.same _ | refine TTle.node ?_ ?_ | refine TTle.leaf ?_ | exact AVle.junk _ | exact AVle.rfl' rfl | exact AVle.nilS | exact AVle.nilB)
    · repeat' (first | exact OOle.none _ _ | exact OOle.same _ | refine OOle.node ?_ ?_ | exact OOle.leaf _ | exact OOle.gone _)
  · exact ⟨by simp, by simp only; omega, (turn_none _ _ _).symm⟩
  · intro x hx
    obtain ⟨j, d⟩ := x
    obtain ⟨g1, g2, g3⟩ := hx
    simp only at g1 g2 g3
    have hd : d.length = (l0.getD i.toNat []).length := by rw [g3]; exact turn_len _ _ _ _
    have k113 := p113_ft ((d.getD j.toNat 0).toNat : Int) (u8_in _)
    have hin := case_in false true (u8_in (d.getD j.toNat 0))
    show HoldsT Try.prog _ (sh125sm l0 k fl fc tl tc i d q j) _
    repeat' (first
      | refine allProp_T ?_
      | exact trivial
      | (refine URun.id ?_; first
          | refine URun.nil ?_
          | refine URun.many tabs2 rfl rfl (by kernel_rfl) ?_ ?_
          | (refine URun.toCall 113 rfl ?_; first
            | refine URun.call tabs2 rfl rfl rfl rfl k113 rfl rfl ?_ rfl ?_)
          | refine URun.same tabs2 rfl rfl rfl ?_
          | refine URun.same2 tabs2 rfl rfl rfl ?_
          | refine URun.split tabs2 rfl rfl rfl rfl (fun h => ?_) (fun h => ?_))
      | (refine TRun.id ?_; first
          | refine TRun.nil ?_
          | refine TRun.many rfl rfl (by kernel_rfl) ?_ ?_
          | (refine TRun.toCall 113 rfl ?_; first
            | refine TRun.call rfl rfl rfl rfl k113 rfl rfl ?_ rfl ?_)
          | refine TRun.same rfl rfl rfl ?_
          | refine TRun.same2 rfl rfl rfl ?_
          | refine TRun.split rfl rfl rfl rfl (fun h => ?_) (fun h => ?_))
      | (refine HoldsT.id ?_; first
          | refine HoldsT.seq ?_
          | refine HoldsT.regionU ?_
          | refine HoldsT.drawn tabs2 ?_
          | refine HoldsT.yes rfl ?_
          | refine HoldsT.no rfl ?_
          | refine HoldsT.cond rfl (fun h => ?_) (fun h => ?_)
          | refine HoldsT.block ?_
          | refine HoldsT.ret ?_
          | refine HoldsT.skip ?_
          | refine HoldsT.exit ?_)
      | (refine okTr_intro ?_; kernel_rfl)
      | exact absurd rfl h
      | exact hin
      | refine allProp_C ?_ ?_
      | refine And.intro ?_ ?_
      | omega
      | (show _ < List.length _; omega)
      | exact rowlen_intro rfl
      | exact lenEq_intro rfl
      | exact Nat.le_of_ble_eq_true rfl
      | (simp only [AV.rowlenD, AV.rowlen, AV.ncells, mulSz, toN, Option.map_some, Option.map_none, cutL, List.length_take, List.length_drop, List.length_append, List.length_cons, List.length_nil, List.length_set, Option.some.injEq, Int.reduceToNat] <;> omega))
    · refine ⟨(j + 1, d.set j.toNat (caseB false true (d.getD j.toNat 0))), ⟨by simp only at *; omega, by simp only at *; omega, by simp only at *; omega, ?_⟩, ?_⟩
      · simp only
        rw [g3, show (j + 1).toNat = j.toNat + 1 by omega]
        exact turn_step _ _ (by omega) (by omega)
      · refine WeakT.of ?_ ?_ (by kernel_rfl)
        · repeat' (first | exact TTle.junk _ _ | exact TTle.same _ | refine TTle.node ?_ ?_ | refine TTle.leaf ?_ | exact AVle.junk _ | exact AVle.rfl' rfl | exact AVle.nilS | exact AVle.nilB | exact AVle.rfl' (congrArg (AV.own 14) (List.length_set ..).symm))
        · repeat' (first | exact OOle.none _ _ | exact OOle.same _ | refine OOle.node ?_ ?_ | exact OOle.leaf _ | exact OOle.gone _)
    · refine FinC.te (y := .str _) rfl rfl trivial (congrArg AV.str ?_)
      rw [g3, show j = q by omega]

def each125sm_sh (l0 : List (List UInt8)) (k fl fc tl tc : Int) (ls : List (List UInt8)) (a b i : Int) (out : List (List UInt8)) : TS := ⟨31, 5, (.node (.node (.node (.node (.node (.leaf (.slS ls)) (J 0)) (.node (.leaf (.ptr 8 0)) (J 0))) (J 2)) (.node (.node (.node (.leaf (.int .i64 b)) (J 0)) (.node (.leaf (.int .i64 i)) (J 0))) (J 2))) (.node (.node (.node (.node (.leaf (.int .i64 a)) (J 0)) (.node (.leaf (.own 22 out.length)) (J 0))) (J 2)) (.node (.node (.node (.leaf (.fn 125 [.cptr (.agg [.slS l0]) 0, .cptr (.agg [.int .i64 k, .int .i64 fl, .int .i64 fc, .int .i64 tl, .int .i64 tc]) 0, .cptr (.agg [.fn 113 [.cptr (.agg [.bool false]) 0, .cptr (.agg [.fn 110 []]) 0, .cptr (.agg [.bool true]) 0, .cptr (.agg [.fn 111 []]) 0]]) 0])) (J 0)) (J 1)) (J 2)))), (.node (.node (.node (.node (OO 1) (.node (.leaf (some ⟨true, false, .agg [.int .i64 0, .nilsl, .nilsl], 47⟩)) (OO 0))) (OO 2)) (.node (OO 2) (.node (.node (OO 0) (.leaf (some ⟨true, true, .slS out, 9⟩))) (OO 1)))) (OO 4))⟩

set_option maxRecDepth 10000 in
set_option maxHeartbeats 8000000 in
theorem each125sm (l0 : List (List UInt8)) (k fl fc tl tc : Int) (F : Int → List UInt8) (ls : List (List UInt8)) (a b : Int) (hL : ls.length ≤ 1000000000) (h0 : 0 ≤ a) (h1 : a ≤ b) (h2 : b < ls.length)
    (hF : ∀ i, a ≤ i → i ≤ b → Pure Try.prog 125 [.int .i64 i, .cptr (.agg [.slS l0]) 0, .cptr (.agg [.int .i64 k, .int .i64 fl, .int .i64 fc, .int .i64 tl, .int .i64 tc]) 0, .cptr (.agg [.fn 113 [.cptr (.agg [.bool false]) 0, .cptr (.agg [.fn 110 []]) 0, .cptr (.agg [.bool true]) 0, .cptr (.agg [.fn 111 []]) 0]]) 0] (.str (F i))) :
    Pure Try.prog 106 [.slS ls, .int .i64 a, .int .i64 b, .fn 125 [.cptr (.agg [.slS l0]) 0, .cptr (.agg [.int .i64 k, .int .i64 fl, .int .i64 fc, .int .i64 tl, .int .i64 tc]) 0, .cptr (.agg [.fn 113 [.cptr (.agg [.bool false]) 0, .cptr (.agg [.fn 110 []]) 0, .cptr (.agg [.bool true]) 0, .cptr (.agg [.fn 111 []]) 0]]) 0]] (.agg [.int .i64 a, .slS (midL ls a (b - a + 1)), .slS (eachL F a (b - a + 1).toNat)]) := by
  refine Pure.ofT tab2_ok Try.func106 rfl rfl [.cell 8 47] rfl (by decide) rfl ⟨31, 5, (.node (.node (.node (.node (.node (.leaf (.slS ls)) (J 0)) (J 1)) (J 2)) (.node (.node (.node (.leaf (.int .i64 b)) (J 0)) (J 1)) (J 2))) (.node (.node (.node (.node (.leaf (.int .i64 a)) (J 0)) (J 1)) (J 2)) (.node (.node (.node (.leaf (.fn 125 [.cptr (.agg [.slS l0]) 0, .cptr (.agg [.int .i64 k, .int .i64 fl, .int .i64 fc, .int .i64 tl, .int .i64 tc]) 0, .cptr (.agg [.fn 113 [.cptr (.agg [.bool false]) 0, .cptr (.agg [.fn 110 []]) 0, .cptr (.agg [.bool true]) 0, .cptr (.agg [.fn 111 []]) 0]]) 0])) (J 0)) (J 1)) (J 2)))), (OO 5)⟩ (by kernel_rfl) (by kernel_rfl) ?_
  repeat' (first
    | refine allProp_T ?_
    | exact trivial
    | (refine URun.id ?_; first
        | refine URun.nil ?_
        | refine URun.many tabs2 rfl rfl (by kernel_rfl) ?_ ?_
        | refine URun.same tabs2 rfl rfl rfl ?_
        | refine URun.same2 tabs2 rfl rfl rfl ?_
        | refine URun.split tabs2 rfl rfl rfl rfl (fun h => ?_) (fun h => ?_))
    | (refine TRun.id ?_; first
        | refine TRun.nil ?_
        | refine TRun.many rfl rfl (by kernel_rfl) ?_ ?_
        | refine TRun.same rfl rfl rfl ?_
        | refine TRun.same2 rfl rfl rfl ?_
        | refine TRun.split rfl rfl rfl rfl (fun h => ?_) (fun h => ?_))
    | (refine HoldsT.id ?_; first
        | refine HoldsT.seq ?_
        | refine HoldsT.regionU ?_
        | refine HoldsT.drawn tabs2 ?_
        | refine HoldsT.yes rfl ?_
        | refine HoldsT.no rfl ?_
        | refine HoldsT.cond rfl (fun h => ?_) (fun h => ?_)
        | refine HoldsT.block ?_
        | refine HoldsT.ret ?_
        | refine HoldsT.skip ?_
        | refine HoldsT.exit ?_)
    | (refine okTr_intro ?_; kernel_rfl)
    | exact absurd rfl h
    | refine allProp_C ?_ ?_
    | refine And.intro ?_ ?_
    | omega
    | (show _ < List.length _; omega)
    | exact rowlen_intro rfl
    | exact lenEq_intro rfl
    | exact Nat.le_of_ble_eq_true rfl
    | (simp only [AV.rowlenD, AV.rowlen, AV.ncells, mulSz, toN, Option.map_some, Option.map_none, cutL, List.length_take, List.length_drop, List.length_append, List.length_cons, List.length_nil, List.length_set, Option.some.injEq, Int.reduceToNat] <;> omega))
  refine HoldsT.loop (fun x : Int × List (List UInt8) => each125sm_sh l0 k fl fc tl tc ls a b x.1 x.2) (fun x => (b + 1 - x.1).toNat) (fun x => a ≤ x.1 ∧ x.1 ≤ b + 1 ∧ x.2 = eachL F a (x.1 - a).toNat) (a, []) ?_ ?_ (fun _ => by kernel_rfl) ?_
  · refine (WeakT.canon 9 22 9 (.slS []) rfl rfl rfl (by kernel_rfl) rfl).trans ?_
    refine WeakT.of ?_ ?_ (by kernel_rfl)
    · repeat' (first | exact TTle.junk _ _ | exact TTle.same _ | refine TTle.node ?_ ?_ | refine TTle.leaf ?_ | exact AVle.junk _ | exact AVle.rfl' rfl | exact AVle.nilS | exact AVle.nilB)
    · repeat' (first | exact OOle.none _ _ | exact OOle.same _ | refine OOle.node ?_ ?_ | exact OOle.leaf _ | exact OOle.gone _)
  · exact ⟨by simp, by simp only; omega, by simp [eachL]⟩
  · intro x hx
    obtain ⟨i, out⟩ := x
    obtain ⟨h3, h4, h5⟩ := hx
    simp only at h3 h4 h5
    have hlen : out.length = (i - a).toNat := by rw [h5]; exact eachL_length _ _ _
    have k80 := p80 ls out a (b - a + 1) (by omega) h0 (by omega) (by omega)
    show HoldsT Try.prog _ (each125sm_sh l0 k fl fc tl tc ls a b i out) _
    repeat' (first
      | refine allProp_T ?_
      | exact trivial
      | (refine URun.id ?_; first
          | refine URun.nil ?_
          | refine URun.many tabs2 rfl rfl (by kernel_rfl) ?_ ?_
          | (refine URun.toCall 125 rfl ?_; first
            | refine URun.call tabs2 rfl rfl rfl rfl (hF i (by omega) (by omega)) rfl rfl ?_ rfl ?_)
          | (refine URun.toCall 80 rfl ?_; first
            | refine URun.call tabs2 rfl rfl rfl rfl k80 rfl rfl ?_ rfl ?_)
          | refine URun.same tabs2 rfl rfl rfl ?_
          | refine URun.same2 tabs2 rfl rfl rfl ?_
          | refine URun.split tabs2 rfl rfl rfl rfl (fun h => ?_) (fun h => ?_))
      | (refine TRun.id ?_; first
          | refine TRun.nil ?_
          | refine TRun.many rfl rfl (by kernel_rfl) ?_ ?_
          | (refine TRun.toCall 125 rfl ?_; first
            | refine TRun.call rfl rfl rfl rfl (hF i (by omega) (by omega)) rfl rfl ?_ rfl ?_)
          | (refine TRun.toCall 80 rfl ?_; first
            | refine TRun.call rfl rfl rfl rfl k80 rfl rfl ?_ rfl ?_)
          | refine TRun.same rfl rfl rfl ?_
          | refine TRun.same2 rfl rfl rfl ?_
          | refine TRun.split rfl rfl rfl rfl (fun h => ?_) (fun h => ?_))
      | (refine HoldsT.id ?_; first
          | refine HoldsT.seq ?_
          | refine HoldsT.regionU ?_
          | refine HoldsT.drawn tabs2 ?_
          | refine HoldsT.yes rfl ?_
          | refine HoldsT.no rfl ?_
          | refine HoldsT.cond rfl (fun h => ?_) (fun h => ?_)
          | refine HoldsT.block ?_
          | refine HoldsT.ret ?_
          | refine HoldsT.skip ?_
          | refine HoldsT.exit ?_)
      | (refine okTr_intro ?_; kernel_rfl)
      | exact absurd rfl h
      | refine allProp_C ?_ ?_
      | refine And.intro ?_ ?_
      | omega
      | (show _ < List.length _; omega)
      | exact rowlen_intro rfl
      | exact lenEq_intro rfl
      | exact Nat.le_of_ble_eq_true rfl
      | (simp only [AV.rowlenD, AV.rowlen, AV.ncells, mulSz, toN, Option.map_some, Option.map_none, cutL, List.length_take, List.length_drop, List.length_append, List.length_cons, List.length_nil, List.length_set, Option.some.injEq, Int.reduceToNat] <;> omega))
    · refine ⟨(i + 1, out ++ [F i]), ⟨by simp only at *; omega, by simp only at *; omega, by simp only at *; omega, ?_⟩, ?_⟩
      · simp only
        rw [show (i + 1 - a).toNat = (i - a).toNat + 1 by omega, eachL, ← h5, show a + ((i - a).toNat : Int) = i by omega]
      · refine WeakT.of ?_ ?_ (by kernel_rfl)
        · repeat' (first | exact TTle.junk _ _ | exact TTle.same _ | refine TTle.node ?_ ?_ | refine TTle.leaf ?_ | exact AVle.junk _ | exact AVle.rfl' rfl | exact AVle.nilS | exact AVle.nilB | exact AVle.rfl' (congrArg (AV.own 22) (tail_row _ _)))
        · repeat' (first | exact OOle.none _ _ | exact OOle.same _ | refine OOle.node ?_ ?_ | exact OOle.leaf _ | exact OOle.gone _)
    · refine FinC.te (y := .agg [.int .i64 _, .slS _, .slS _]) rfl rfl ⟨trivial, trivial, trivial, trivial⟩ (congrArg (fun z => AV.agg [.int .i64 a, .slS (midL ls a (b - a + 1)), .slS z]) ?_)
      rw [h5, show i = b + 1 by omega, show b + 1 - a = b - a + 1 by omega]

end Go.Proofs.Ytefbgdnobnemkaa.AM
