/-
  A text that is written, a byte over others: the law.
-/
import Derived.Test.YtefbgdnobnemkaaDoorD4
set_option linter.unusedSimpArgs false
set_option linter.unusedVariables false
set_option linter.unusedSectionVars false
namespace Go.Proofs.YtefbgdnobnemkaaDoor.AM
open Go Go.RowKit

theorem rowG2 {sz n : Nat} {cs : List AV} {a b c d : AV} (hs : sz = 2) (h : cs = [a, b, c, d]) (hn : n = 2) : (AV.slG sz cs).rowlen = some n := by subst hs h hn; simp [AV.rowlen]
/-- A text that is written at a place, or not. -/
def writeR (ls t : List (List UInt8)) (l c : Int) : TyR :=
  if placeL ls l c = true ∧ t ≠ [] then ⟨true, l, midL ls l 1, writeL (ls.getD l.toNat []) c t, l + ((t.length : Int) - 1), ((t.set 0 (cutL (ls.getD l.toNat []) none (some c.toNat) ++ t.getD 0 [])).getD ((t.length : Int) - 1).toNat []).length⟩ else tyNo
theorem writeR_len (ls t : List (List UInt8)) (l c : Int) : (writeR ls t l c).old.length ≤ ls.length ∧ (writeR ls t l c).new.length ≤ t.length := by
  unfold writeR
  split
  · refine ⟨by simp only [midL]; exact cutL_le _ _ _, by simp [writeL]⟩
  · exact ⟨by simp [tyNo], by simp [tyNo]⟩
theorem over_len (ls : List (List UInt8)) (l c k n : Int) : (overR ls l c k n).old.length ≤ ls.length ∧ (overR ls l c k n).new.length ≤ 1 := by
  unfold overR
  split
  · refine ⟨by simp only [midL]; exact cutL_le _ _ _, by simp⟩
  · exact ⟨by simp [chNo], by simp [chNo]⟩
theorem q13w (ls t : List (List UInt8)) (l c : Int) (hl : ls.length ≤ 1000000000) (ht : t.length ≤ 1000000000) (hB : ∀ n : Nat, (ls.getD n []).length ≤ 1000000000) (hT : ∀ n : Nat, (t.getD n []).length ≤ 1000000000) : Pure Tryd.prog 13 [.slS ls, .agg [.int .i64 l, .int .i64 c], .slS t] (writeR ls t l c).av := by
  by_cases h : placeL ls l c = true ∧ t ≠ []
  · unfold writeR
    rw [if_pos h]
    exact p60 ls t l c (by omega) (by omega) (fun n => by have := hB n; omega) (fun n => by have := hT n; omega) h.1 (by have := List.length_pos_iff.2 h.2; omega)
  · unfold writeR
    rw [if_neg h]
    refine p60_no ls t l c ?_
    cases hp : placeL ls l c with
    | false => exact .inl rfl
    | true => exact .inr (Classical.byContradiction fun ht => h ⟨hp, ht⟩)
theorem q14w (ls t : List (List UInt8)) (l c : Int) (hl : ls.length ≤ 1000000000) (ht : t.length ≤ 1000000000) (hB : ∀ n : Nat, (ls.getD n []).length ≤ 1000000000) (hT : ∀ n : Nat, (t.getD n []).length ≤ 1000000000) : Pure Tryd.prog 14 [.slS ls, .agg [.int .i64 l, .int .i64 c], .slS t] (writeR ls t l c).av := by
  by_cases h : placeL ls l c = true ∧ t ≠ []
  · unfold writeR
    rw [if_pos h]
    exact q14 ls t l c (by omega) (by omega) (fun n => by have := hB n; omega) (fun n => by have := hT n; omega) h.1 (by have := List.length_pos_iff.2 h.2; omega)
  · unfold writeR
    rw [if_neg h]
    refine q14_no ls t l c ?_
    cases hp : placeL ls l c with
    | false => exact .inl rfl
    | true => exact .inr (Classical.byContradiction fun ht => h ⟨hp, ht⟩)
theorem light_of {t : List (List UInt8)} (h : lightL t = true) : t.length ≤ 40 ∧ ∀ n : Nat, (t.getD n []).length ≤ 1200 := by
  simp only [lightL, Bool.and_eq_true, decide_eq_true_eq] at h
  refine ⟨h.1.1, fun n => ?_⟩
  rcases Nat.lt_or_ge n t.length with hn | hn
  · have h1 := sumL_take t n hn
    have h2 := sumL_le t (n + 1)
    omega
  · rw [List.getD_eq_getElem?_getD, List.getElem?_eq_none hn]; simp
def sh3a (ls t : List (List UInt8)) (r s u v c n y : Int) : TS := ⟨106, 7, (.node (.node (.node (.node (.node (.node (.node (.leaf (.slS ls)) (J 0)) (J 1)) (J 2)) (.node (.node (J 1) (.node (.leaf (.own 40 2)) (J 0))) (J 2))) (.node (.node (.node (.node (.leaf (.slS t)) (J 0)) (J 1)) (J 2)) (J 3))) (.node (.node (J 3) (.node (.node (J 1) (.node (.leaf (.int .i64 y)) (J 0))) (J 2))) (.node (.node (.node (.node (.leaf (.int .i64 n)) (J 0)) (J 1)) (J 2)) (J 3)))) (.node (.node (.node (J 3) (.node (.node (J 1) (.node (.leaf (.int .i64 2)) (J 0))) (J 2))) (.node (.node (.node (.node (.leaf (.int .u8 c)) (J 0)) (J 1)) (J 2)) (J 3))) (J 5))), (.node (.node (.node (.node (OO 3) (.node (.node (OO 1) (.node (.leaf (some ⟨true, true, .slG 2 [.int .i64 r, .int .i64 s, .int .i64 u, .int .i64 v], 24⟩)) (OO 0))) (OO 2))) (OO 4)) (OO 5)) (OO 6))⟩
def sh3b (ls t : List (List UInt8)) (r s u v c n y p q z A : Int) (O N : List (List UInt8)) : TS := ⟨106, 7, (.node (.node (.node (.node (.node (.node (.node (.leaf (.slS ls)) (J 0)) (J 1)) (.node (.node (.leaf (.ptr 16 0)) (J 0)) (J 1))) (.node (.node (J 1) (.node (.leaf (.own 40 2)) (J 0))) (J 2))) (.node (.node (.node (.node (.leaf (.slS t)) (J 0)) (J 1)) (.node (.node (.leaf (.ptr 20 0)) (J 0)) (J 1))) (.node (.node (.node (J 0) (.leaf (.own 76 3))) (J 1)) (J 2)))) (.node (.node (J 3) (.node (.node (J 1) (.node (.leaf (.int .i64 y)) (J 0))) (J 2))) (.node (.node (.node (.node (.leaf (.int .i64 n)) (J 0)) (J 1)) (J 2)) (.node (.node (.node (J 0) (.leaf (.int .i64 z))) (J 1)) (J 2))))) (.node (.node (.node (.node (J 2) (.node (.node (.leaf (.ptr 17 0)) (J 0)) (J 1))) (.node (.node (J 1) (.node (.leaf (.int .i64 2)) (J 0))) (J 2))) (.node (.node (.node (.node (.leaf (.int .u8 c)) (J 0)) (J 1)) (J 2)) (.node (.node (.node (J 0) (.leaf (.int .i64 3))) (J 1)) (J 2)))) (J 5))), (.node (.node (.node (.node (.node (OO 2) (.node (.node (.leaf (some ⟨true, false, .agg [.int .i64 p, .int .i64 q], 24⟩)) (OO 0)) (OO 1))) (.node (.node (OO 1) (.node (.leaf (some ⟨true, true, .slG 2 [.int .i64 r, .int .i64 s, .int .i64 u, .int .i64 v], 24⟩)) (OO 0))) (OO 2))) (.node (.node (OO 2) (.node (.node (.leaf (some ⟨true, false, .agg [.int .i64 A, .slS O, .slS N], 31⟩)) (OO 0)) (OO 1))) (.node (.node (.node (OO 0) (.leaf (some ⟨true, true, .slG 1 [.int .i64 n, .int .i64 (n.tmod 9), .int .i64 1], 3⟩))) (OO 1)) (OO 2)))) (OO 5)) (.node (.node (.node (.node (OO 2) (.node (.node (.leaf (some ⟨true, false, .agg [.int .i64 A, .slS O, .slS N], 31⟩)) (OO 0)) (OO 1))) (OO 3)) (OO 4)) (OO 5)))⟩
set_option maxRecDepth 10000 in
set_option maxHeartbeats 8000000 in
theorem q3 (ls t : List (List UInt8)) (r s a b c n : Int) (hL : ls.length ≤ 140737488355328) (hB : ∀ n : Nat, (ls.getD n []).length ≤ 140737488355328) (hT : t.length ≤ 140737488355328) (hTB : ∀ n : Nat, (t.getD n []).length ≤ 140737488355328) (hr : inK .i64 r) (hs : inK .i64 s) (ha : inK .u16 a) (hb : inK .u16 b) (hc : inK .u8 c) (hn : inK .i64 n) : Pure Tryd.prog 3 [.slS ls, .agg [.int .i64 r, .int .i64 s], .int .u16 a, .int .u16 b, .slS t, .int .u8 c, .int .i64 n] (.bool true) := by
  have k27 := p27 ls hL hB
  have k31 := p31 t hT hTB
  by_cases hg : (decide (0 < (ls.length : Int)) && lightL ls) = true ∧ lightL t = true
  · obtain ⟨hok, hok2⟩ := hg
    rw [hok] at k27
    rw [hok2] at k31
    obtain ⟨h0, hll, hrr⟩ := light_len hok
    obtain ⟨htl, htt⟩ := light_of hok2
    have k28 := p28 ls a b h0 ha hb (fun n => by have := hrr n; omega)
    generalize plL ls a = u at *
    generalize plC ls a b = v at *
    have k13 := fun l c => q13w ls t l c (by omega) (by omega) (fun n => by have := hrr n; omega) (fun n => by have := htt n; omega)
    have k14 := fun l c => q14w ls t l c (by omega) (by omega) (fun n => by have := hrr n; omega) (fun n => by have := htt n; omega)
    have k15w : ∀ l c, Pure Tryd.prog 15 [.agg [.int .i64 (writeR ls t l c).at', .slS (writeR ls t l c).old, .slS (writeR ls t l c).new], .bool (writeR ls t l c).ok, .agg [.int .i64 (writeR ls t l c).at', .slS (writeR ls t l c).old, .slS (writeR ls t l c).new], .bool (writeR ls t l c).ok] (.bool true) := fun l c => by
      have hb := writeR_len ls t l c
      exact q15 _ _ _ _ _ _ _ _ (by omega) (by omega) ⟨rfl, rfl, rfl, rfl⟩
    have k16 := fun l d m => q16 ls l d c m (by omega) (fun n => by have := hrr n; omega) hc
    have k17 := fun l d m => q17 ls l d c m (by omega) (fun n => by have := hrr n; omega) hc
    have k15o : ∀ l d m, Pure Tryd.prog 15 [.agg [.int .i64 (overR ls l d c m).at', .slS (overR ls l d c m).old, .slS (overR ls l d c m).new], .bool (overR ls l d c m).ok, .agg [.int .i64 (overR ls l d c m).at', .slS (overR ls l d c m).old, .slS (overR ls l d c m).new], .bool (overR ls l d c m).ok] (.bool true) := fun l d m => by
      have hb := over_len ls l d c m
      exact q15 _ _ _ _ _ _ _ _ (by omega) (by omega) ⟨rfl, rfl, rfl, rfl⟩
    have h9 : inK .i64 (n.tmod 9) := by
      have h1 := Int.tmod_lt_of_pos n (show (0 : Int) < 9 by omega)
      have h2 := Int.lt_tmod_of_pos n (show (0 : Int) < 9 by omega)
      exact ⟨by omega, by omega⟩
    refine Pure.ofT tab2_ok Tryd.func3 rfl rfl [.tmp 14] rfl (by decide) rfl ⟨106, 7, (.node (.node (.node (.node (.node (.node (.node (.leaf (.slS ls)) (J 0)) (J 1)) (J 2)) (J 3)) (.node (.node (.node (.node (.leaf (.slS t)) (J 0)) (J 1)) (J 2)) (J 3))) (.node (.node (.node (.node (.node (.leaf (.int .u16 a)) (J 0)) (J 1)) (J 2)) (J 3)) (.node (.node (.node (.node (.leaf (.int .i64 n)) (J 0)) (J 1)) (J 2)) (J 3)))) (.node (.node (.node (.node (.node (.node (.leaf (.agg [.int .i64 r, .int .i64 s])) (J 0)) (J 1)) (J 2)) (J 3)) (.node (.node (.node (.node (.leaf (.int .u8 c)) (J 0)) (J 1)) (J 2)) (J 3))) (.node (.node (.node (.node (.node (.leaf (.int .u16 b)) (J 0)) (J 1)) (J 2)) (J 3)) (J 4)))), (OO 7)⟩ (by kernel_rfl) (by kernel_rfl) ?_
    repeat' (first
      | refine allProp_T ?_
      | exact trivial
      | (refine URun.id ?_; first
          | refine URun.nil ?_
          | refine URun.many tabs2 rfl rfl (by kernel_rfl) ?_ ?_
          | (refine URun.toCall 9 rfl ?_; first
            | refine URun.call tabs2 rfl rfl rfl rfl q9 rfl rfl ?_ rfl ?_)
          | (refine URun.toCall 10 rfl ?_; first
            | refine URun.call tabs2 rfl rfl rfl rfl k27 rfl rfl ?_ rfl ?_)
          | (refine URun.toCall 11 rfl ?_; first
            | refine URun.call tabs2 rfl rfl rfl rfl k31 rfl rfl ?_ rfl ?_)
          | (refine URun.toCall 12 rfl ?_; first
            | refine URun.call tabs2 rfl rfl rfl rfl k28 rfl rfl ?_ rfl ?_)
          | refine URun.same tabs2 rfl rfl rfl ?_
          | refine URun.same2 tabs2 rfl rfl rfl ?_
          | refine URun.split tabs2 rfl rfl rfl rfl (fun h => ?_) (fun h => ?_))
      | (refine TRun.id ?_; first
          | refine TRun.nil ?_
          | refine TRun.many rfl rfl (by kernel_rfl) ?_ ?_
          | (refine TRun.toCall 9 rfl ?_; first
            | refine TRun.call rfl rfl rfl rfl q9 rfl rfl ?_ rfl ?_)
          | (refine TRun.toCall 10 rfl ?_; first
            | refine TRun.call rfl rfl rfl rfl k27 rfl rfl ?_ rfl ?_)
          | (refine TRun.toCall 11 rfl ?_; first
            | refine TRun.call rfl rfl rfl rfl k31 rfl rfl ?_ rfl ?_)
          | (refine TRun.toCall 12 rfl ?_; first
            | refine TRun.call rfl rfl rfl rfl k28 rfl rfl ?_ rfl ?_)
          | refine TRun.same rfl rfl rfl ?_
          | refine TRun.same2 rfl rfl rfl ?_
          | refine TRun.split rfl rfl rfl rfl (fun h => ?_) (fun h => ?_))
      | (refine HoldsT.id ?_; first
          | refine HoldsT.seq ?_
          | refine HoldsT.regionU ?_
          | refine HoldsT.drawn tabs2 ?_
          | refine HoldsT.yes rfl ?_
          | refine HoldsT.no rfl ?_
          | refine HoldsT.cond rfl (fun h => ?_) (fun h => ?_)
          | refine HoldsT.block ?_
          | refine HoldsT.ret ?_
          | refine HoldsT.skip ?_
          | refine HoldsT.exit ?_)
      | (refine okTr_intro ?_; kernel_rfl)
      | exact absurd rfl h
      | exact rowN rfl rfl rfl
      | exact rowG2 rfl rfl rfl
      | refine allProp_C ?_ ?_
      | refine And.intro ?_ ?_
      | omega
      | (show _ < List.length _; omega)
      | exact rowlen_intro rfl
      | exact lenEq_intro rfl
      | exact Nat.le_of_ble_eq_true rfl
      | (simp only [AV.rowlenD, AV.rowlen, AV.ncells, mulSz, toN, Option.map_some, Option.map_none, cutL, List.length_take, List.length_drop, List.length_append, List.length_cons, List.length_nil, List.length_set, Option.some.injEq, Int.reduceToNat] <;> omega))
    refine HoldsT.loop (fun y : Int => sh3a ls t r s u v c n y) (fun y => (2 - y).toNat) (fun y => y = 0 ∨ y = 1 ∨ y = 2) 0 ?_ (.inl rfl) (fun _ => by kernel_rfl) ?_
    · refine WeakT.of ?_ ?_ (by kernel_rfl)
      · repeat' (first | exact TTle.junk _ _ | exact TTle.same _ | refine TTle.node ?_ ?_ | refine TTle.leaf ?_ | exact AVle.junk _ | exact AVle.rfl' rfl | exact AVle.nilS | exact AVle.nilB)
      · repeat' (first | exact OOle.none _ _ | exact OOle.same _ | refine OOle.node ?_ ?_ | exact OOle.leaf _ | exact OOle.gone _)
    intro y hy
    rcases hy with rfl | rfl | rfl
    · show HoldsT Tryd.prog _ (sh3a ls t r s u v c n 0) _
      repeat' (first
        | refine allProp_T ?_
        | exact trivial
        | (refine URun.id ?_; first
            | refine URun.nil ?_
            | refine URun.many tabs2 rfl rfl (by kernel_rfl) ?_ ?_
            | (refine URun.toCall 13 rfl ?_; first
              | refine URun.call tabs2 rfl rfl rfl rfl (k13 _ _) rfl rfl ?_ rfl ?_)
            | (refine URun.toCall 14 rfl ?_; first
              | refine URun.call tabs2 rfl rfl rfl rfl (k14 _ _) rfl rfl ?_ rfl ?_)
            | (refine URun.toCall 15 rfl ?_; first
              | refine URun.call tabs2 rfl rfl rfl rfl (k15w _ _) rfl rfl ?_ rfl ?_
              | refine URun.call tabs2 rfl rfl rfl rfl (k15o _ _ _) rfl rfl ?_ rfl ?_)
            | (refine URun.toCall 16 rfl ?_; first
              | refine URun.call tabs2 rfl rfl rfl rfl (k16 _ _ _) rfl rfl ?_ rfl ?_)
            | (refine URun.toCall 17 rfl ?_; first
              | refine URun.call tabs2 rfl rfl rfl rfl (k17 _ _ _) rfl rfl ?_ rfl ?_)
            | refine URun.same tabs2 rfl rfl rfl ?_
            | refine URun.same2 tabs2 rfl rfl rfl ?_
            | refine URun.yes tabs2 rfl rfl (by decide) rfl ?_
            | refine URun.no tabs2 rfl rfl (by decide) rfl ?_
            | refine URun.yes tabs2 rfl rfl (fun h => h rfl) rfl ?_
            | refine URun.no tabs2 rfl rfl (fun h => h rfl) rfl ?_
            | refine URun.yes tabs2 rfl rfl (fun h => h ⟨rfl, rfl⟩) rfl ?_
            | refine URun.no tabs2 rfl rfl (fun h => h ⟨rfl, rfl⟩) rfl ?_
            | refine URun.yes tabs2 rfl rfl rfl rfl ?_
            | refine URun.no tabs2 rfl rfl rfl rfl ?_
            | refine URun.split tabs2 rfl rfl rfl rfl (fun h => ?_) (fun h => ?_))
        | (refine TRun.id ?_; first
            | refine TRun.nil ?_
            | refine TRun.many rfl rfl (by kernel_rfl) ?_ ?_
            | (refine TRun.toCall 13 rfl ?_; first
              | refine TRun.call rfl rfl rfl rfl (k13 _ _) rfl rfl ?_ rfl ?_)
            | (refine TRun.toCall 14 rfl ?_; first
              | refine TRun.call rfl rfl rfl rfl (k14 _ _) rfl rfl ?_ rfl ?_)
            | (refine TRun.toCall 15 rfl ?_; first
              | refine TRun.call rfl rfl rfl rfl (k15w _ _) rfl rfl ?_ rfl ?_
              | refine TRun.call rfl rfl rfl rfl (k15o _ _ _) rfl rfl ?_ rfl ?_)
            | (refine TRun.toCall 16 rfl ?_; first
              | refine TRun.call rfl rfl rfl rfl (k16 _ _ _) rfl rfl ?_ rfl ?_)
            | (refine TRun.toCall 17 rfl ?_; first
              | refine TRun.call rfl rfl rfl rfl (k17 _ _ _) rfl rfl ?_ rfl ?_)
            | refine TRun.same rfl rfl rfl ?_
            | refine TRun.same2 rfl rfl rfl ?_
            | refine TRun.yes rfl rfl (by decide) rfl ?_
            | refine TRun.no rfl rfl (by decide) rfl ?_
            | refine TRun.yes rfl rfl (fun h => h rfl) rfl ?_
            | refine TRun.no rfl rfl (fun h => h rfl) rfl ?_
            | refine TRun.yes rfl rfl (fun h => h ⟨rfl, rfl⟩) rfl ?_
            | refine TRun.no rfl rfl (fun h => h ⟨rfl, rfl⟩) rfl ?_
            | refine TRun.yes rfl rfl rfl rfl ?_
            | refine TRun.no rfl rfl rfl rfl ?_
            | refine TRun.split rfl rfl rfl rfl (fun h => ?_) (fun h => ?_))
        | (refine HoldsT.id ?_; first
            | refine HoldsT.seq ?_
            | refine HoldsT.regionU ?_
            | refine HoldsT.drawn tabs2 ?_
            | refine HoldsT.yes rfl ?_
            | refine HoldsT.no rfl ?_
            | refine HoldsT.cond rfl (fun h => ?_) (fun h => ?_)
            | refine HoldsT.block ?_
            | refine HoldsT.ret ?_
            | refine HoldsT.skip ?_
            | refine HoldsT.exit ?_)
        | (refine okTr_intro ?_; kernel_rfl)
        | exact absurd rfl h
        | exact rowN rfl rfl rfl
        | exact rowG2 rfl rfl rfl
        | refine allProp_C ?_ ?_
        | refine And.intro ?_ ?_
        | omega
        | (show _ < List.length _; omega)
        | exact rowlen_intro rfl
        | exact lenEq_intro rfl
        | exact Nat.le_of_ble_eq_true rfl
        | (simp only [AV.rowlenD, AV.rowlen, AV.ncells, mulSz, toN, Option.map_some, Option.map_none, cutL, List.length_take, List.length_drop, List.length_append, List.length_cons, List.length_nil, List.length_set, Option.some.injEq, Int.reduceToNat] <;> omega))
      · refine HoldsT.loop (fun x : Int × (Int × (List (List UInt8) × List (List UInt8))) => sh3b ls t r s u v c n 0 r s x.1 x.2.1 x.2.2.1 x.2.2.2) (fun x => (3 - x.1).toNat) (fun x => x.1 = 0 ∨ x.1 = 1 ∨ x.1 = 2 ∨ x.1 = 3) (0, ((writeR ls t r s).at', ((writeR ls t r s).old, (writeR ls t r s).new))) ?_ (.inl rfl) (fun _ => by kernel_rfl) ?_
        · refine WeakT.of ?_ ?_ (by kernel_rfl)
          · repeat' (first | exact TTle.junk _ _ | exact TTle.same _ | refine TTle.node ?_ ?_ | refine TTle.leaf ?_ | exact AVle.junk _ | exact AVle.rfl' rfl | exact AVle.nilS | exact AVle.nilB)
          · repeat' (first | exact OOle.none _ _ | exact OOle.same _ | refine OOle.node ?_ ?_ | exact OOle.leaf _ | exact OOle.gone _)
        · intro x hx
          obtain ⟨z, A, O, N⟩ := x
          simp only at hx
          rcases hx with rfl | rfl | rfl | rfl
          · show HoldsT Tryd.prog _ (sh3b ls t r s u v c n 0 r s 0 A O N) _
            repeat' (first
              | refine allProp_T ?_
              | exact trivial
              | (refine URun.id ?_; first
                  | refine URun.nil ?_
                  | refine URun.many tabs2 rfl rfl (by kernel_rfl) ?_ ?_
                  | (refine URun.toCall 13 rfl ?_; first
                    | refine URun.call tabs2 rfl rfl rfl rfl (k13 _ _) rfl rfl ?_ rfl ?_)
                  | (refine URun.toCall 14 rfl ?_; first
                    | refine URun.call tabs2 rfl rfl rfl rfl (k14 _ _) rfl rfl ?_ rfl ?_)
                  | (refine URun.toCall 15 rfl ?_; first
                    | refine URun.call tabs2 rfl rfl rfl rfl (k15w _ _) rfl rfl ?_ rfl ?_
                    | refine URun.call tabs2 rfl rfl rfl rfl (k15o _ _ _) rfl rfl ?_ rfl ?_)
                  | (refine URun.toCall 16 rfl ?_; first
                    | refine URun.call tabs2 rfl rfl rfl rfl (k16 _ _ _) rfl rfl ?_ rfl ?_)
                  | (refine URun.toCall 17 rfl ?_; first
                    | refine URun.call tabs2 rfl rfl rfl rfl (k17 _ _ _) rfl rfl ?_ rfl ?_)
                  | refine URun.same tabs2 rfl rfl rfl ?_
                  | refine URun.same2 tabs2 rfl rfl rfl ?_
                  | refine URun.yes tabs2 rfl rfl (by decide) rfl ?_
                  | refine URun.no tabs2 rfl rfl (by decide) rfl ?_
                  | refine URun.yes tabs2 rfl rfl (fun h => h rfl) rfl ?_
                  | refine URun.no tabs2 rfl rfl (fun h => h rfl) rfl ?_
                  | refine URun.yes tabs2 rfl rfl (fun h => h ⟨rfl, rfl⟩) rfl ?_
                  | refine URun.no tabs2 rfl rfl (fun h => h ⟨rfl, rfl⟩) rfl ?_
                  | refine URun.yes tabs2 rfl rfl rfl rfl ?_
                  | refine URun.no tabs2 rfl rfl rfl rfl ?_
                  | refine URun.split tabs2 rfl rfl rfl rfl (fun h => ?_) (fun h => ?_))
              | (refine TRun.id ?_; first
                  | refine TRun.nil ?_
                  | refine TRun.many rfl rfl (by kernel_rfl) ?_ ?_
                  | (refine TRun.toCall 13 rfl ?_; first
                    | refine TRun.call rfl rfl rfl rfl (k13 _ _) rfl rfl ?_ rfl ?_)
                  | (refine TRun.toCall 14 rfl ?_; first
                    | refine TRun.call rfl rfl rfl rfl (k14 _ _) rfl rfl ?_ rfl ?_)
                  | (refine TRun.toCall 15 rfl ?_; first
                    | refine TRun.call rfl rfl rfl rfl (k15w _ _) rfl rfl ?_ rfl ?_
                    | refine TRun.call rfl rfl rfl rfl (k15o _ _ _) rfl rfl ?_ rfl ?_)
                  | (refine TRun.toCall 16 rfl ?_; first
                    | refine TRun.call rfl rfl rfl rfl (k16 _ _ _) rfl rfl ?_ rfl ?_)
                  | (refine TRun.toCall 17 rfl ?_; first
                    | refine TRun.call rfl rfl rfl rfl (k17 _ _ _) rfl rfl ?_ rfl ?_)
                  | refine TRun.same rfl rfl rfl ?_
                  | refine TRun.same2 rfl rfl rfl ?_
                  | refine TRun.yes rfl rfl (by decide) rfl ?_
                  | refine TRun.no rfl rfl (by decide) rfl ?_
                  | refine TRun.yes rfl rfl (fun h => h rfl) rfl ?_
                  | refine TRun.no rfl rfl (fun h => h rfl) rfl ?_
                  | refine TRun.yes rfl rfl (fun h => h ⟨rfl, rfl⟩) rfl ?_
                  | refine TRun.no rfl rfl (fun h => h ⟨rfl, rfl⟩) rfl ?_
                  | refine TRun.yes rfl rfl rfl rfl ?_
                  | refine TRun.no rfl rfl rfl rfl ?_
                  | refine TRun.split rfl rfl rfl rfl (fun h => ?_) (fun h => ?_))
              | (refine HoldsT.id ?_; first
                  | refine HoldsT.seq ?_
                  | refine HoldsT.regionU ?_
                  | refine HoldsT.drawn tabs2 ?_
                  | refine HoldsT.yes rfl ?_
                  | refine HoldsT.no rfl ?_
                  | refine HoldsT.cond rfl (fun h => ?_) (fun h => ?_)
                  | refine HoldsT.block ?_
                  | refine HoldsT.ret ?_
                  | refine HoldsT.skip ?_
                  | refine HoldsT.exit ?_)
              | (refine okTr_intro ?_; kernel_rfl)
              | exact absurd rfl h
              | exact rowN rfl rfl rfl
              | exact rowG2 rfl rfl rfl
              | refine allProp_C ?_ ?_
              | refine And.intro ?_ ?_
              | omega
              | (show _ < List.length _; omega)
              | exact rowlen_intro rfl
              | exact lenEq_intro rfl
              | exact Nat.le_of_ble_eq_true rfl
              | (simp only [AV.rowlenD, AV.rowlen, AV.ncells, mulSz, toN, Option.map_some, Option.map_none, cutL, List.length_take, List.length_drop, List.length_append, List.length_cons, List.length_nil, List.length_set, Option.some.injEq, Int.reduceToNat] <;> omega))
            · refine ⟨(1, ((overR ls r s c n).at', ((overR ls r s c n).old, (overR ls r s c n).new))), ⟨by show (3 - (1 : Int)).toNat < (3 - (0 : Int)).toNat; decide, by simp⟩, ?_⟩
              refine WeakT.of ?_ ?_ (by kernel_rfl)
              · repeat' (first | exact TTle.junk _ _ | exact TTle.same _ | refine TTle.node ?_ ?_ | refine TTle.leaf ?_ | exact AVle.junk _ | exact AVle.rfl' rfl | exact AVle.nilS | exact AVle.nilB)
              · repeat' (first | exact OOle.none _ _ | exact OOle.same _ | refine OOle.node ?_ ?_ | exact OOle.leaf _ | exact OOle.gone _)
          · show HoldsT Tryd.prog _ (sh3b ls t r s u v c n 0 r s 1 A O N) _
            repeat' (first
              | refine allProp_T ?_
              | exact trivial
              | (refine URun.id ?_; first
                  | refine URun.nil ?_
                  | refine URun.many tabs2 rfl rfl (by kernel_rfl) ?_ ?_
                  | (refine URun.toCall 13 rfl ?_; first
                    | refine URun.call tabs2 rfl rfl rfl rfl (k13 _ _) rfl rfl ?_ rfl ?_)
                  | (refine URun.toCall 14 rfl ?_; first
                    | refine URun.call tabs2 rfl rfl rfl rfl (k14 _ _) rfl rfl ?_ rfl ?_)
                  | (refine URun.toCall 15 rfl ?_; first
                    | refine URun.call tabs2 rfl rfl rfl rfl (k15w _ _) rfl rfl ?_ rfl ?_
                    | refine URun.call tabs2 rfl rfl rfl rfl (k15o _ _ _) rfl rfl ?_ rfl ?_)
                  | (refine URun.toCall 16 rfl ?_; first
                    | refine URun.call tabs2 rfl rfl rfl rfl (k16 _ _ _) rfl rfl ?_ rfl ?_)
                  | (refine URun.toCall 17 rfl ?_; first
                    | refine URun.call tabs2 rfl rfl rfl rfl (k17 _ _ _) rfl rfl ?_ rfl ?_)
                  | refine URun.same tabs2 rfl rfl rfl ?_
                  | refine URun.same2 tabs2 rfl rfl rfl ?_
                  | refine URun.yes tabs2 rfl rfl (by decide) rfl ?_
                  | refine URun.no tabs2 rfl rfl (by decide) rfl ?_
                  | refine URun.yes tabs2 rfl rfl (fun h => h rfl) rfl ?_
                  | refine URun.no tabs2 rfl rfl (fun h => h rfl) rfl ?_
                  | refine URun.yes tabs2 rfl rfl (fun h => h ⟨rfl, rfl⟩) rfl ?_
                  | refine URun.no tabs2 rfl rfl (fun h => h ⟨rfl, rfl⟩) rfl ?_
                  | refine URun.yes tabs2 rfl rfl rfl rfl ?_
                  | refine URun.no tabs2 rfl rfl rfl rfl ?_
                  | refine URun.split tabs2 rfl rfl rfl rfl (fun h => ?_) (fun h => ?_))
              | (refine TRun.id ?_; first
                  | refine TRun.nil ?_
                  | refine TRun.many rfl rfl (by kernel_rfl) ?_ ?_
                  | (refine TRun.toCall 13 rfl ?_; first
                    | refine TRun.call rfl rfl rfl rfl (k13 _ _) rfl rfl ?_ rfl ?_)
                  | (refine TRun.toCall 14 rfl ?_; first
                    | refine TRun.call rfl rfl rfl rfl (k14 _ _) rfl rfl ?_ rfl ?_)
                  | (refine TRun.toCall 15 rfl ?_; first
                    | refine TRun.call rfl rfl rfl rfl (k15w _ _) rfl rfl ?_ rfl ?_
                    | refine TRun.call rfl rfl rfl rfl (k15o _ _ _) rfl rfl ?_ rfl ?_)
                  | (refine TRun.toCall 16 rfl ?_; first
                    | refine TRun.call rfl rfl rfl rfl (k16 _ _ _) rfl rfl ?_ rfl ?_)
                  | (refine TRun.toCall 17 rfl ?_; first
                    | refine TRun.call rfl rfl rfl rfl (k17 _ _ _) rfl rfl ?_ rfl ?_)
                  | refine TRun.same rfl rfl rfl ?_
                  | refine TRun.same2 rfl rfl rfl ?_
                  | refine TRun.yes rfl rfl (by decide) rfl ?_
                  | refine TRun.no rfl rfl (by decide) rfl ?_
                  | refine TRun.yes rfl rfl (fun h => h rfl) rfl ?_
                  | refine TRun.no rfl rfl (fun h => h rfl) rfl ?_
                  | refine TRun.yes rfl rfl (fun h => h ⟨rfl, rfl⟩) rfl ?_
                  | refine TRun.no rfl rfl (fun h => h ⟨rfl, rfl⟩) rfl ?_
                  | refine TRun.yes rfl rfl rfl rfl ?_
                  | refine TRun.no rfl rfl rfl rfl ?_
                  | refine TRun.split rfl rfl rfl rfl (fun h => ?_) (fun h => ?_))
              | (refine HoldsT.id ?_; first
                  | refine HoldsT.seq ?_
                  | refine HoldsT.regionU ?_
                  | refine HoldsT.drawn tabs2 ?_
                  | refine HoldsT.yes rfl ?_
                  | refine HoldsT.no rfl ?_
                  | refine HoldsT.cond rfl (fun h => ?_) (fun h => ?_)
                  | refine HoldsT.block ?_
                  | refine HoldsT.ret ?_
                  | refine HoldsT.skip ?_
                  | refine HoldsT.exit ?_)
              | (refine okTr_intro ?_; kernel_rfl)
              | exact absurd rfl h
              | exact rowN rfl rfl rfl
              | exact rowG2 rfl rfl rfl
              | refine allProp_C ?_ ?_
              | refine And.intro ?_ ?_
              | omega
              | (show _ < List.length _; omega)
              | exact rowlen_intro rfl
              | exact lenEq_intro rfl
              | exact Nat.le_of_ble_eq_true rfl
              | (simp only [AV.rowlenD, AV.rowlen, AV.ncells, mulSz, toN, Option.map_some, Option.map_none, cutL, List.length_take, List.length_drop, List.length_append, List.length_cons, List.length_nil, List.length_set, Option.some.injEq, Int.reduceToNat] <;> omega))
            · refine ⟨(2, ((overR ls r s c (n.tmod 9)).at', ((overR ls r s c (n.tmod 9)).old, (overR ls r s c (n.tmod 9)).new))), ⟨by show (3 - (2 : Int)).toNat < (3 - (1 : Int)).toNat; decide, by simp⟩, ?_⟩
              refine WeakT.of ?_ ?_ (by kernel_rfl)
              · repeat' (first | exact TTle.junk _ _ | exact TTle.same _ | refine TTle.node ?_ ?_ | refine TTle.leaf ?_ | exact AVle.junk _ | exact AVle.rfl' rfl | exact AVle.nilS | exact AVle.nilB)
              · repeat' (first | exact OOle.none _ _ | exact OOle.same _ | refine OOle.node ?_ ?_ | exact OOle.leaf _ | exact OOle.gone _)
          · show HoldsT Tryd.prog _ (sh3b ls t r s u v c n 0 r s 2 A O N) _
            repeat' (first
              | refine allProp_T ?_
              | exact trivial
              | (refine URun.id ?_; first
                  | refine URun.nil ?_
                  | refine URun.many tabs2 rfl rfl (by kernel_rfl) ?_ ?_
                  | (refine URun.toCall 13 rfl ?_; first
                    | refine URun.call tabs2 rfl rfl rfl rfl (k13 _ _) rfl rfl ?_ rfl ?_)
                  | (refine URun.toCall 14 rfl ?_; first
                    | refine URun.call tabs2 rfl rfl rfl rfl (k14 _ _) rfl rfl ?_ rfl ?_)
                  | (refine URun.toCall 15 rfl ?_; first
                    | refine URun.call tabs2 rfl rfl rfl rfl (k15w _ _) rfl rfl ?_ rfl ?_
                    | refine URun.call tabs2 rfl rfl rfl rfl (k15o _ _ _) rfl rfl ?_ rfl ?_)
                  | (refine URun.toCall 16 rfl ?_; first
                    | refine URun.call tabs2 rfl rfl rfl rfl (k16 _ _ _) rfl rfl ?_ rfl ?_)
                  | (refine URun.toCall 17 rfl ?_; first
                    | refine URun.call tabs2 rfl rfl rfl rfl (k17 _ _ _) rfl rfl ?_ rfl ?_)
                  | refine URun.same tabs2 rfl rfl rfl ?_
                  | refine URun.same2 tabs2 rfl rfl rfl ?_
                  | refine URun.yes tabs2 rfl rfl (by decide) rfl ?_
                  | refine URun.no tabs2 rfl rfl (by decide) rfl ?_
                  | refine URun.yes tabs2 rfl rfl (fun h => h rfl) rfl ?_
                  | refine URun.no tabs2 rfl rfl (fun h => h rfl) rfl ?_
                  | refine URun.yes tabs2 rfl rfl (fun h => h ⟨rfl, rfl⟩) rfl ?_
                  | refine URun.no tabs2 rfl rfl (fun h => h ⟨rfl, rfl⟩) rfl ?_
                  | refine URun.yes tabs2 rfl rfl rfl rfl ?_
                  | refine URun.no tabs2 rfl rfl rfl rfl ?_
                  | refine URun.split tabs2 rfl rfl rfl rfl (fun h => ?_) (fun h => ?_))
              | (refine TRun.id ?_; first
                  | refine TRun.nil ?_
                  | refine TRun.many rfl rfl (by kernel_rfl) ?_ ?_
                  | (refine TRun.toCall 13 rfl ?_; first
                    | refine TRun.call rfl rfl rfl rfl (k13 _ _) rfl rfl ?_ rfl ?_)
                  | (refine TRun.toCall 14 rfl ?_; first
                    | refine TRun.call rfl rfl rfl rfl (k14 _ _) rfl rfl ?_ rfl ?_)
                  | (refine TRun.toCall 15 rfl ?_; first
                    | refine TRun.call rfl rfl rfl rfl (k15w _ _) rfl rfl ?_ rfl ?_
                    | refine TRun.call rfl rfl rfl rfl (k15o _ _ _) rfl rfl ?_ rfl ?_)
                  | (refine TRun.toCall 16 rfl ?_; first
                    | refine TRun.call rfl rfl rfl rfl (k16 _ _ _) rfl rfl ?_ rfl ?_)
                  | (refine TRun.toCall 17 rfl ?_; first
                    | refine TRun.call rfl rfl rfl rfl (k17 _ _ _) rfl rfl ?_ rfl ?_)
                  | refine TRun.same rfl rfl rfl ?_
                  | refine TRun.same2 rfl rfl rfl ?_
                  | refine TRun.yes rfl rfl (by decide) rfl ?_
                  | refine TRun.no rfl rfl (by decide) rfl ?_
                  | refine TRun.yes rfl rfl (fun h => h rfl) rfl ?_
                  | refine TRun.no rfl rfl (fun h => h rfl) rfl ?_
                  | refine TRun.yes rfl rfl (fun h => h ⟨rfl, rfl⟩) rfl ?_
                  | refine TRun.no rfl rfl (fun h => h ⟨rfl, rfl⟩) rfl ?_
                  | refine TRun.yes rfl rfl rfl rfl ?_
                  | refine TRun.no rfl rfl rfl rfl ?_
                  | refine TRun.split rfl rfl rfl rfl (fun h => ?_) (fun h => ?_))
              | (refine HoldsT.id ?_; first
                  | refine HoldsT.seq ?_
                  | refine HoldsT.regionU ?_
                  | refine HoldsT.drawn tabs2 ?_
                  | refine HoldsT.yes rfl ?_
                  | refine HoldsT.no rfl ?_
                  | refine HoldsT.cond rfl (fun h => ?_) (fun h => ?_)
                  | refine HoldsT.block ?_
                  | refine HoldsT.ret ?_
                  | refine HoldsT.skip ?_
                  | refine HoldsT.exit ?_)
              | (refine okTr_intro ?_; kernel_rfl)
              | exact absurd rfl h
              | exact rowN rfl rfl rfl
              | exact rowG2 rfl rfl rfl
              | refine allProp_C ?_ ?_
              | refine And.intro ?_ ?_
              | omega
              | (show _ < List.length _; omega)
              | exact rowlen_intro rfl
              | exact lenEq_intro rfl
              | exact Nat.le_of_ble_eq_true rfl
              | (simp only [AV.rowlenD, AV.rowlen, AV.ncells, mulSz, toN, Option.map_some, Option.map_none, cutL, List.length_take, List.length_drop, List.length_append, List.length_cons, List.length_nil, List.length_set, Option.some.injEq, Int.reduceToNat] <;> omega))
            · refine ⟨(3, ((overR ls r s c 1).at', ((overR ls r s c 1).old, (overR ls r s c 1).new))), ⟨by show (3 - (3 : Int)).toNat < (3 - (2 : Int)).toNat; decide, by simp⟩, ?_⟩
              refine WeakT.of ?_ ?_ (by kernel_rfl)
              · repeat' (first | exact TTle.junk _ _ | exact TTle.same _ | refine TTle.node ?_ ?_ | refine TTle.leaf ?_ | exact AVle.junk _ | exact AVle.rfl' rfl | exact AVle.nilS | exact AVle.nilB)
              · repeat' (first | exact OOle.none _ _ | exact OOle.same _ | refine OOle.node ?_ ?_ | exact OOle.leaf _ | exact OOle.gone _)
          · show HoldsT Tryd.prog _ (sh3b ls t r s u v c n 0 r s 3 A O N) _
            repeat' (first
              | refine allProp_T ?_
              | exact trivial
              | (refine URun.id ?_; first
                  | refine URun.nil ?_
                  | refine URun.many tabs2 rfl rfl (by kernel_rfl) ?_ ?_
                  | (refine URun.toCall 13 rfl ?_; first
                    | refine URun.call tabs2 rfl rfl rfl rfl (k13 _ _) rfl rfl ?_ rfl ?_)
                  | (refine URun.toCall 14 rfl ?_; first
                    | refine URun.call tabs2 rfl rfl rfl rfl (k14 _ _) rfl rfl ?_ rfl ?_)
                  | (refine URun.toCall 15 rfl ?_; first
                    | refine URun.call tabs2 rfl rfl rfl rfl (k15w _ _) rfl rfl ?_ rfl ?_
                    | refine URun.call tabs2 rfl rfl rfl rfl (k15o _ _ _) rfl rfl ?_ rfl ?_)
                  | (refine URun.toCall 16 rfl ?_; first
                    | refine URun.call tabs2 rfl rfl rfl rfl (k16 _ _ _) rfl rfl ?_ rfl ?_)
                  | (refine URun.toCall 17 rfl ?_; first
                    | refine URun.call tabs2 rfl rfl rfl rfl (k17 _ _ _) rfl rfl ?_ rfl ?_)
                  | refine URun.same tabs2 rfl rfl rfl ?_
                  | refine URun.same2 tabs2 rfl rfl rfl ?_
                  | refine URun.yes tabs2 rfl rfl (by decide) rfl ?_
                  | refine URun.no tabs2 rfl rfl (by decide) rfl ?_
                  | refine URun.yes tabs2 rfl rfl (fun h => h rfl) rfl ?_
                  | refine URun.no tabs2 rfl rfl (fun h => h rfl) rfl ?_
                  | refine URun.yes tabs2 rfl rfl (fun h => h ⟨rfl, rfl⟩) rfl ?_
                  | refine URun.no tabs2 rfl rfl (fun h => h ⟨rfl, rfl⟩) rfl ?_
                  | refine URun.yes tabs2 rfl rfl rfl rfl ?_
                  | refine URun.no tabs2 rfl rfl rfl rfl ?_
                  | refine URun.split tabs2 rfl rfl rfl rfl (fun h => ?_) (fun h => ?_))
              | (refine TRun.id ?_; first
                  | refine TRun.nil ?_
                  | refine TRun.many rfl rfl (by kernel_rfl) ?_ ?_
                  | (refine TRun.toCall 13 rfl ?_; first
                    | refine TRun.call rfl rfl rfl rfl (k13 _ _) rfl rfl ?_ rfl ?_)
                  | (refine TRun.toCall 14 rfl ?_; first
                    | refine TRun.call rfl rfl rfl rfl (k14 _ _) rfl rfl ?_ rfl ?_)
                  | (refine TRun.toCall 15 rfl ?_; first
                    | refine TRun.call rfl rfl rfl rfl (k15w _ _) rfl rfl ?_ rfl ?_
                    | refine TRun.call rfl rfl rfl rfl (k15o _ _ _) rfl rfl ?_ rfl ?_)
                  | (refine TRun.toCall 16 rfl ?_; first
                    | refine TRun.call rfl rfl rfl rfl (k16 _ _ _) rfl rfl ?_ rfl ?_)
                  | (refine TRun.toCall 17 rfl ?_; first
                    | refine TRun.call rfl rfl rfl rfl (k17 _ _ _) rfl rfl ?_ rfl ?_)
                  | refine TRun.same rfl rfl rfl ?_
                  | refine TRun.same2 rfl rfl rfl ?_
                  | refine TRun.yes rfl rfl (by decide) rfl ?_
                  | refine TRun.no rfl rfl (by decide) rfl ?_
                  | refine TRun.yes rfl rfl (fun h => h rfl) rfl ?_
                  | refine TRun.no rfl rfl (fun h => h rfl) rfl ?_
                  | refine TRun.yes rfl rfl (fun h => h ⟨rfl, rfl⟩) rfl ?_
                  | refine TRun.no rfl rfl (fun h => h ⟨rfl, rfl⟩) rfl ?_
                  | refine TRun.yes rfl rfl rfl rfl ?_
                  | refine TRun.no rfl rfl rfl rfl ?_
                  | refine TRun.split rfl rfl rfl rfl (fun h => ?_) (fun h => ?_))
              | (refine HoldsT.id ?_; first
                  | refine HoldsT.seq ?_
                  | refine HoldsT.regionU ?_
                  | refine HoldsT.drawn tabs2 ?_
                  | refine HoldsT.yes rfl ?_
                  | refine HoldsT.no rfl ?_
                  | refine HoldsT.cond rfl (fun h => ?_) (fun h => ?_)
                  | refine HoldsT.block ?_
                  | refine HoldsT.ret ?_
                  | refine HoldsT.skip ?_
                  | refine HoldsT.exit ?_)
              | (refine okTr_intro ?_; kernel_rfl)
              | exact absurd rfl h
              | exact rowN rfl rfl rfl
              | exact rowG2 rfl rfl rfl
              | refine allProp_C ?_ ?_
              | refine And.intro ?_ ?_
              | omega
              | (show _ < List.length _; omega)
              | exact rowlen_intro rfl
              | exact lenEq_intro rfl
              | exact Nat.le_of_ble_eq_true rfl
              | (simp only [AV.rowlenD, AV.rowlen, AV.ncells, mulSz, toN, Option.map_some, Option.map_none, cutL, List.length_take, List.length_drop, List.length_append, List.length_cons, List.length_nil, List.length_set, Option.some.injEq, Int.reduceToNat] <;> omega))
            · refine ⟨1, ⟨by decide, by decide⟩, ?_⟩
              refine WeakT.of ?_ ?_ (by kernel_rfl)
              · repeat' (first | exact TTle.junk _ _ | exact TTle.same _ | refine TTle.node ?_ ?_ | refine TTle.leaf ?_ | exact AVle.junk _ | exact AVle.rfl' rfl | exact AVle.nilS | exact AVle.nilB)
              · repeat' (first | exact OOle.none _ _ | exact OOle.same _ | refine OOle.node ?_ ?_ | exact OOle.leaf _ | exact OOle.gone _)
    · show HoldsT Tryd.prog _ (sh3a ls t r s u v c n 1) _
      repeat' (first
        | refine allProp_T ?_
        | exact trivial
        | (refine URun.id ?_; first
            | refine URun.nil ?_
            | refine URun.many tabs2 rfl rfl (by kernel_rfl) ?_ ?_
            | (refine URun.toCall 13 rfl ?_; first
              | refine URun.call tabs2 rfl rfl rfl rfl (k13 _ _) rfl rfl ?_ rfl ?_)
            | (refine URun.toCall 14 rfl ?_; first
              | refine URun.call tabs2 rfl rfl rfl rfl (k14 _ _) rfl rfl ?_ rfl ?_)
            | (refine URun.toCall 15 rfl ?_; first
              | refine URun.call tabs2 rfl rfl rfl rfl (k15w _ _) rfl rfl ?_ rfl ?_
              | refine URun.call tabs2 rfl rfl rfl rfl (k15o _ _ _) rfl rfl ?_ rfl ?_)
            | (refine URun.toCall 16 rfl ?_; first
              | refine URun.call tabs2 rfl rfl rfl rfl (k16 _ _ _) rfl rfl ?_ rfl ?_)
            | (refine URun.toCall 17 rfl ?_; first
              | refine URun.call tabs2 rfl rfl rfl rfl (k17 _ _ _) rfl rfl ?_ rfl ?_)
            | refine URun.same tabs2 rfl rfl rfl ?_
            | refine URun.same2 tabs2 rfl rfl rfl ?_
            | refine URun.yes tabs2 rfl rfl (by decide) rfl ?_
            | refine URun.no tabs2 rfl rfl (by decide) rfl ?_
            | refine URun.yes tabs2 rfl rfl (fun h => h rfl) rfl ?_
            | refine URun.no tabs2 rfl rfl (fun h => h rfl) rfl ?_
            | refine URun.yes tabs2 rfl rfl (fun h => h ⟨rfl, rfl⟩) rfl ?_
            | refine URun.no tabs2 rfl rfl (fun h => h ⟨rfl, rfl⟩) rfl ?_
            | refine URun.yes tabs2 rfl rfl rfl rfl ?_
            | refine URun.no tabs2 rfl rfl rfl rfl ?_
            | refine URun.split tabs2 rfl rfl rfl rfl (fun h => ?_) (fun h => ?_))
        | (refine TRun.id ?_; first
            | refine TRun.nil ?_
            | refine TRun.many rfl rfl (by kernel_rfl) ?_ ?_
            | (refine TRun.toCall 13 rfl ?_; first
              | refine TRun.call rfl rfl rfl rfl (k13 _ _) rfl rfl ?_ rfl ?_)
            | (refine TRun.toCall 14 rfl ?_; first
              | refine TRun.call rfl rfl rfl rfl (k14 _ _) rfl rfl ?_ rfl ?_)
            | (refine TRun.toCall 15 rfl ?_; first
              | refine TRun.call rfl rfl rfl rfl (k15w _ _) rfl rfl ?_ rfl ?_
              | refine TRun.call rfl rfl rfl rfl (k15o _ _ _) rfl rfl ?_ rfl ?_)
            | (refine TRun.toCall 16 rfl ?_; first
              | refine TRun.call rfl rfl rfl rfl (k16 _ _ _) rfl rfl ?_ rfl ?_)
            | (refine TRun.toCall 17 rfl ?_; first
              | refine TRun.call rfl rfl rfl rfl (k17 _ _ _) rfl rfl ?_ rfl ?_)
            | refine TRun.same rfl rfl rfl ?_
            | refine TRun.same2 rfl rfl rfl ?_
            | refine TRun.yes rfl rfl (by decide) rfl ?_
            | refine TRun.no rfl rfl (by decide) rfl ?_
            | refine TRun.yes rfl rfl (fun h => h rfl) rfl ?_
            | refine TRun.no rfl rfl (fun h => h rfl) rfl ?_
            | refine TRun.yes rfl rfl (fun h => h ⟨rfl, rfl⟩) rfl ?_
            | refine TRun.no rfl rfl (fun h => h ⟨rfl, rfl⟩) rfl ?_
            | refine TRun.yes rfl rfl rfl rfl ?_
            | refine TRun.no rfl rfl rfl rfl ?_
            | refine TRun.split rfl rfl rfl rfl (fun h => ?_) (fun h => ?_))
        | (refine HoldsT.id ?_; first
            | refine HoldsT.seq ?_
            | refine HoldsT.regionU ?_
            | refine HoldsT.drawn tabs2 ?_
            | refine HoldsT.yes rfl ?_
            | refine HoldsT.no rfl ?_
            | refine HoldsT.cond rfl (fun h => ?_) (fun h => ?_)
            | refine HoldsT.block ?_
            | refine HoldsT.ret ?_
            | refine HoldsT.skip ?_
            | refine HoldsT.exit ?_)
        | (refine okTr_intro ?_; kernel_rfl)
        | exact absurd rfl h
        | exact rowN rfl rfl rfl
        | exact rowG2 rfl rfl rfl
        | refine allProp_C ?_ ?_
        | refine And.intro ?_ ?_
        | omega
        | (show _ < List.length _; omega)
        | exact rowlen_intro rfl
        | exact lenEq_intro rfl
        | exact Nat.le_of_ble_eq_true rfl
        | (simp only [AV.rowlenD, AV.rowlen, AV.ncells, mulSz, toN, Option.map_some, Option.map_none, cutL, List.length_take, List.length_drop, List.length_append, List.length_cons, List.length_nil, List.length_set, Option.some.injEq, Int.reduceToNat] <;> omega))
      · refine HoldsT.loop (fun x : Int × (Int × (List (List UInt8) × List (List UInt8))) => sh3b ls t r s u v c n 1 u v x.1 x.2.1 x.2.2.1 x.2.2.2) (fun x => (3 - x.1).toNat) (fun x => x.1 = 0 ∨ x.1 = 1 ∨ x.1 = 2 ∨ x.1 = 3) (0, ((writeR ls t u v).at', ((writeR ls t u v).old, (writeR ls t u v).new))) ?_ (.inl rfl) (fun _ => by kernel_rfl) ?_
        · refine WeakT.of ?_ ?_ (by kernel_rfl)
          · repeat' (first | exact TTle.junk _ _ | exact TTle.same _ | refine TTle.node ?_ ?_ | refine TTle.leaf ?_ | exact AVle.junk _ | exact AVle.rfl' rfl | exact AVle.nilS | exact AVle.nilB)
          · repeat' (first | exact OOle.none _ _ | exact OOle.same _ | refine OOle.node ?_ ?_ | exact OOle.leaf _ | exact OOle.gone _)
        · intro x hx
          obtain ⟨z, A, O, N⟩ := x
          simp only at hx
          rcases hx with rfl | rfl | rfl | rfl
          · show HoldsT Tryd.prog _ (sh3b ls t r s u v c n 1 u v 0 A O N) _
            repeat' (first
              | refine allProp_T ?_
              | exact trivial
              | (refine URun.id ?_; first
                  | refine URun.nil ?_
                  | refine URun.many tabs2 rfl rfl (by kernel_rfl) ?_ ?_
                  | (refine URun.toCall 13 rfl ?_; first
                    | refine URun.call tabs2 rfl rfl rfl rfl (k13 _ _) rfl rfl ?_ rfl ?_)
                  | (refine URun.toCall 14 rfl ?_; first
                    | refine URun.call tabs2 rfl rfl rfl rfl (k14 _ _) rfl rfl ?_ rfl ?_)
                  | (refine URun.toCall 15 rfl ?_; first
                    | refine URun.call tabs2 rfl rfl rfl rfl (k15w _ _) rfl rfl ?_ rfl ?_
                    | refine URun.call tabs2 rfl rfl rfl rfl (k15o _ _ _) rfl rfl ?_ rfl ?_)
                  | (refine URun.toCall 16 rfl ?_; first
                    | refine URun.call tabs2 rfl rfl rfl rfl (k16 _ _ _) rfl rfl ?_ rfl ?_)
                  | (refine URun.toCall 17 rfl ?_; first
                    | refine URun.call tabs2 rfl rfl rfl rfl (k17 _ _ _) rfl rfl ?_ rfl ?_)
                  | refine URun.same tabs2 rfl rfl rfl ?_
                  | refine URun.same2 tabs2 rfl rfl rfl ?_
                  | refine URun.yes tabs2 rfl rfl (by decide) rfl ?_
                  | refine URun.no tabs2 rfl rfl (by decide) rfl ?_
                  | refine URun.yes tabs2 rfl rfl (fun h => h rfl) rfl ?_
                  | refine URun.no tabs2 rfl rfl (fun h => h rfl) rfl ?_
                  | refine URun.yes tabs2 rfl rfl (fun h => h ⟨rfl, rfl⟩) rfl ?_
                  | refine URun.no tabs2 rfl rfl (fun h => h ⟨rfl, rfl⟩) rfl ?_
                  | refine URun.yes tabs2 rfl rfl rfl rfl ?_
                  | refine URun.no tabs2 rfl rfl rfl rfl ?_
                  | refine URun.split tabs2 rfl rfl rfl rfl (fun h => ?_) (fun h => ?_))
              | (refine TRun.id ?_; first
                  | refine TRun.nil ?_
                  | refine TRun.many rfl rfl (by kernel_rfl) ?_ ?_
                  | (refine TRun.toCall 13 rfl ?_; first
                    | refine TRun.call rfl rfl rfl rfl (k13 _ _) rfl rfl ?_ rfl ?_)
                  | (refine TRun.toCall 14 rfl ?_; first
                    | refine TRun.call rfl rfl rfl rfl (k14 _ _) rfl rfl ?_ rfl ?_)
                  | (refine TRun.toCall 15 rfl ?_; first
                    | refine TRun.call rfl rfl rfl rfl (k15w _ _) rfl rfl ?_ rfl ?_
                    | refine TRun.call rfl rfl rfl rfl (k15o _ _ _) rfl rfl ?_ rfl ?_)
                  | (refine TRun.toCall 16 rfl ?_; first
                    | refine TRun.call rfl rfl rfl rfl (k16 _ _ _) rfl rfl ?_ rfl ?_)
                  | (refine TRun.toCall 17 rfl ?_; first
                    | refine TRun.call rfl rfl rfl rfl (k17 _ _ _) rfl rfl ?_ rfl ?_)
                  | refine TRun.same rfl rfl rfl ?_
                  | refine TRun.same2 rfl rfl rfl ?_
                  | refine TRun.yes rfl rfl (by decide) rfl ?_
                  | refine TRun.no rfl rfl (by decide) rfl ?_
                  | refine TRun.yes rfl rfl (fun h => h rfl) rfl ?_
                  | refine TRun.no rfl rfl (fun h => h rfl) rfl ?_
                  | refine TRun.yes rfl rfl (fun h => h ⟨rfl, rfl⟩) rfl ?_
                  | refine TRun.no rfl rfl (fun h => h ⟨rfl, rfl⟩) rfl ?_
                  | refine TRun.yes rfl rfl rfl rfl ?_
                  | refine TRun.no rfl rfl rfl rfl ?_
                  | refine TRun.split rfl rfl rfl rfl (fun h => ?_) (fun h => ?_))
              | (refine HoldsT.id ?_; first
                  | refine HoldsT.seq ?_
                  | refine HoldsT.regionU ?_
                  | refine HoldsT.drawn tabs2 ?_
                  | refine HoldsT.yes rfl ?_
                  | refine HoldsT.no rfl ?_
                  | refine HoldsT.cond rfl (fun h => ?_) (fun h => ?_)
                  | refine HoldsT.block ?_
                  | refine HoldsT.ret ?_
                  | refine HoldsT.skip ?_
                  | refine HoldsT.exit ?_)
              | (refine okTr_intro ?_; kernel_rfl)
              | exact absurd rfl h
              | exact rowN rfl rfl rfl
              | exact rowG2 rfl rfl rfl
              | refine allProp_C ?_ ?_
              | refine And.intro ?_ ?_
              | omega
              | (show _ < List.length _; omega)
              | exact rowlen_intro rfl
              | exact lenEq_intro rfl
              | exact Nat.le_of_ble_eq_true rfl
              | (simp only [AV.rowlenD, AV.rowlen, AV.ncells, mulSz, toN, Option.map_some, Option.map_none, cutL, List.length_take, List.length_drop, List.length_append, List.length_cons, List.length_nil, List.length_set, Option.some.injEq, Int.reduceToNat] <;> omega))
            · refine ⟨(1, ((overR ls u v c n).at', ((overR ls u v c n).old, (overR ls u v c n).new))), ⟨by show (3 - (1 : Int)).toNat < (3 - (0 : Int)).toNat; decide, by simp⟩, ?_⟩
              refine WeakT.of ?_ ?_ (by kernel_rfl)
              · repeat' (first | exact TTle.junk _ _ | exact TTle.same _ | refine TTle.node ?_ ?_ | refine TTle.leaf ?_ | exact AVle.junk _ | exact AVle.rfl' rfl | exact AVle.nilS | exact AVle.nilB)
              · repeat' (first | exact OOle.none _ _ | exact OOle.same _ | refine OOle.node ?_ ?_ | exact OOle.leaf _ | exact OOle.gone _)
          · show HoldsT Tryd.prog _ (sh3b ls t r s u v c n 1 u v 1 A O N) _
            repeat' (first
              | refine allProp_T ?_
              | exact trivial
              | (refine URun.id ?_; first
                  | refine URun.nil ?_
                  | refine URun.many tabs2 rfl rfl (by kernel_rfl) ?_ ?_
                  | (refine URun.toCall 13 rfl ?_; first
                    | refine URun.call tabs2 rfl rfl rfl rfl (k13 _ _) rfl rfl ?_ rfl ?_)
                  | (refine URun.toCall 14 rfl ?_; first
                    | refine URun.call tabs2 rfl rfl rfl rfl (k14 _ _) rfl rfl ?_ rfl ?_)
                  | (refine URun.toCall 15 rfl ?_; first
                    | refine URun.call tabs2 rfl rfl rfl rfl (k15w _ _) rfl rfl ?_ rfl ?_
                    | refine URun.call tabs2 rfl rfl rfl rfl (k15o _ _ _) rfl rfl ?_ rfl ?_)
                  | (refine URun.toCall 16 rfl ?_; first
                    | refine URun.call tabs2 rfl rfl rfl rfl (k16 _ _ _) rfl rfl ?_ rfl ?_)
                  | (refine URun.toCall 17 rfl ?_; first
                    | refine URun.call tabs2 rfl rfl rfl rfl (k17 _ _ _) rfl rfl ?_ rfl ?_)
                  | refine URun.same tabs2 rfl rfl rfl ?_
                  | refine URun.same2 tabs2 rfl rfl rfl ?_
                  | refine URun.yes tabs2 rfl rfl (by decide) rfl ?_
                  | refine URun.no tabs2 rfl rfl (by decide) rfl ?_
                  | refine URun.yes tabs2 rfl rfl (fun h => h rfl) rfl ?_
                  | refine URun.no tabs2 rfl rfl (fun h => h rfl) rfl ?_
                  | refine URun.yes tabs2 rfl rfl (fun h => h ⟨rfl, rfl⟩) rfl ?_
                  | refine URun.no tabs2 rfl rfl (fun h => h ⟨rfl, rfl⟩) rfl ?_
                  | refine URun.yes tabs2 rfl rfl rfl rfl ?_
                  | refine URun.no tabs2 rfl rfl rfl rfl ?_
                  | refine URun.split tabs2 rfl rfl rfl rfl (fun h => ?_) (fun h => ?_))
              | (refine TRun.id ?_; first
                  | refine TRun.nil ?_
                  | refine TRun.many rfl rfl (by kernel_rfl) ?_ ?_
                  | (refine TRun.toCall 13 rfl ?_; first
                    | refine TRun.call rfl rfl rfl rfl (k13 _ _) rfl rfl ?_ rfl ?_)
                  | (refine TRun.toCall 14 rfl ?_; first
                    | refine TRun.call rfl rfl rfl rfl (k14 _ _) rfl rfl ?_ rfl ?_)
                  | (refine TRun.toCall 15 rfl ?_; first
                    | refine TRun.call rfl rfl rfl rfl (k15w _ _) rfl rfl ?_ rfl ?_
                    | refine TRun.call rfl rfl rfl rfl (k15o _ _ _) rfl rfl ?_ rfl ?_)
                  | (refine TRun.toCall 16 rfl ?_; first
                    | refine TRun.call rfl rfl rfl rfl (k16 _ _ _) rfl rfl ?_ rfl ?_)
                  | (refine TRun.toCall 17 rfl ?_; first
                    | refine TRun.call rfl rfl rfl rfl (k17 _ _ _) rfl rfl ?_ rfl ?_)
                  | refine TRun.same rfl rfl rfl ?_
                  | refine TRun.same2 rfl rfl rfl ?_
                  | refine TRun.yes rfl rfl (by decide) rfl ?_
                  | refine TRun.no rfl rfl (by decide) rfl ?_
                  | refine TRun.yes rfl rfl (fun h => h rfl) rfl ?_
                  | refine TRun.no rfl rfl (fun h => h rfl) rfl ?_
                  | refine TRun.yes rfl rfl (fun h => h ⟨rfl, rfl⟩) rfl ?_
                  | refine TRun.no rfl rfl (fun h => h ⟨rfl, rfl⟩) rfl ?_
                  | refine TRun.yes rfl rfl rfl rfl ?_
                  | refine TRun.no rfl rfl rfl rfl ?_
                  | refine TRun.split rfl rfl rfl rfl (fun h => ?_) (fun h => ?_))
              | (refine HoldsT.id ?_; first
                  | refine HoldsT.seq ?_
                  | refine HoldsT.regionU ?_
                  | refine HoldsT.drawn tabs2 ?_
                  | refine HoldsT.yes rfl ?_
                  | refine HoldsT.no rfl ?_
                  | refine HoldsT.cond rfl (fun h => ?_) (fun h => ?_)
                  | refine HoldsT.block ?_
                  | refine HoldsT.ret ?_
                  | refine HoldsT.skip ?_
                  | refine HoldsT.exit ?_)
              | (refine okTr_intro ?_; kernel_rfl)
              | exact absurd rfl h
              | exact rowN rfl rfl rfl
              | exact rowG2 rfl rfl rfl
              | refine allProp_C ?_ ?_
              | refine And.intro ?_ ?_
              | omega
              | (show _ < List.length _; omega)
              | exact rowlen_intro rfl
              | exact lenEq_intro rfl
              | exact Nat.le_of_ble_eq_true rfl
              | (simp only [AV.rowlenD, AV.rowlen, AV.ncells, mulSz, toN, Option.map_some, Option.map_none, cutL, List.length_take, List.length_drop, List.length_append, List.length_cons, List.length_nil, List.length_set, Option.some.injEq, Int.reduceToNat] <;> omega))
            · refine ⟨(2, ((overR ls u v c (n.tmod 9)).at', ((overR ls u v c (n.tmod 9)).old, (overR ls u v c (n.tmod 9)).new))), ⟨by show (3 - (2 : Int)).toNat < (3 - (1 : Int)).toNat; decide, by simp⟩, ?_⟩
              refine WeakT.of ?_ ?_ (by kernel_rfl)
              · repeat' (first | exact TTle.junk _ _ | exact TTle.same _ | refine TTle.node ?_ ?_ | refine TTle.leaf ?_ | exact AVle.junk _ | exact AVle.rfl' rfl | exact AVle.nilS | exact AVle.nilB)
              · repeat' (first | exact OOle.none _ _ | exact OOle.same _ | refine OOle.node ?_ ?_ | exact OOle.leaf _ | exact OOle.gone _)
          · show HoldsT Tryd.prog _ (sh3b ls t r s u v c n 1 u v 2 A O N) _
            repeat' (first
              | refine allProp_T ?_
              | exact trivial
              | (refine URun.id ?_; first
                  | refine URun.nil ?_
                  | refine URun.many tabs2 rfl rfl (by kernel_rfl) ?_ ?_
                  | (refine URun.toCall 13 rfl ?_; first
                    | refine URun.call tabs2 rfl rfl rfl rfl (k13 _ _) rfl rfl ?_ rfl ?_)
                  | (refine URun.toCall 14 rfl ?_; first
                    | refine URun.call tabs2 rfl rfl rfl rfl (k14 _ _) rfl rfl ?_ rfl ?_)
                  | (refine URun.toCall 15 rfl ?_; first
                    | refine URun.call tabs2 rfl rfl rfl rfl (k15w _ _) rfl rfl ?_ rfl ?_
                    | refine URun.call tabs2 rfl rfl rfl rfl (k15o _ _ _) rfl rfl ?_ rfl ?_)
                  | (refine URun.toCall 16 rfl ?_; first
                    | refine URun.call tabs2 rfl rfl rfl rfl (k16 _ _ _) rfl rfl ?_ rfl ?_)
                  | (refine URun.toCall 17 rfl ?_; first
                    | refine URun.call tabs2 rfl rfl rfl rfl (k17 _ _ _) rfl rfl ?_ rfl ?_)
                  | refine URun.same tabs2 rfl rfl rfl ?_
                  | refine URun.same2 tabs2 rfl rfl rfl ?_
                  | refine URun.yes tabs2 rfl rfl (by decide) rfl ?_
                  | refine URun.no tabs2 rfl rfl (by decide) rfl ?_
                  | refine URun.yes tabs2 rfl rfl (fun h => h rfl) rfl ?_
                  | refine URun.no tabs2 rfl rfl (fun h => h rfl) rfl ?_
                  | refine URun.yes tabs2 rfl rfl (fun h => h ⟨rfl, rfl⟩) rfl ?_
                  | refine URun.no tabs2 rfl rfl (fun h => h ⟨rfl, rfl⟩) rfl ?_
                  | refine URun.yes tabs2 rfl rfl rfl rfl ?_
                  | refine URun.no tabs2 rfl rfl rfl rfl ?_
                  | refine URun.split tabs2 rfl rfl rfl rfl (fun h => ?_) (fun h => ?_))
              | (refine TRun.id ?_; first
                  | refine TRun.nil ?_
                  | refine TRun.many rfl rfl (by kernel_rfl) ?_ ?_
                  | (refine TRun.toCall 13 rfl ?_; first
                    | refine TRun.call rfl rfl rfl rfl (k13 _ _) rfl rfl ?_ rfl ?_)
                  | (refine TRun.toCall 14 rfl ?_; first
                    | refine TRun.call rfl rfl rfl rfl (k14 _ _) rfl rfl ?_ rfl ?_)
                  | (refine TRun.toCall 15 rfl ?_; first
                    | refine TRun.call rfl rfl rfl rfl (k15w _ _) rfl rfl ?_ rfl ?_
                    | refine TRun.call rfl rfl rfl rfl (k15o _ _ _) rfl rfl ?_ rfl ?_)
                  | (refine TRun.toCall 16 rfl ?_; first
                    | refine TRun.call rfl rfl rfl rfl (k16 _ _ _) rfl rfl ?_ rfl ?_)
                  | (refine TRun.toCall 17 rfl ?_; first
                    | refine TRun.call rfl rfl rfl rfl (k17 _ _ _) rfl rfl ?_ rfl ?_)
                  | refine TRun.same rfl rfl rfl ?_
                  | refine TRun.same2 rfl rfl rfl ?_
                  | refine TRun.yes rfl rfl (by decide) rfl ?_
                  | refine TRun.no rfl rfl (by decide) rfl ?_
                  | refine TRun.yes rfl rfl (fun h => h rfl) rfl ?_
                  | refine TRun.no rfl rfl (fun h => h rfl) rfl ?_
                  | refine TRun.yes rfl rfl (fun h => h ⟨rfl, rfl⟩) rfl ?_
                  | refine TRun.no rfl rfl (fun h => h ⟨rfl, rfl⟩) rfl ?_
                  | refine TRun.yes rfl rfl rfl rfl ?_
                  | refine TRun.no rfl rfl rfl rfl ?_
                  | refine TRun.split rfl rfl rfl rfl (fun h => ?_) (fun h => ?_))
              | (refine HoldsT.id ?_; first
                  | refine HoldsT.seq ?_
                  | refine HoldsT.regionU ?_
                  | refine HoldsT.drawn tabs2 ?_
                  | refine HoldsT.yes rfl ?_
                  | refine HoldsT.no rfl ?_
                  | refine HoldsT.cond rfl (fun h => ?_) (fun h => ?_)
                  | refine HoldsT.block ?_
                  | refine HoldsT.ret ?_
                  | refine HoldsT.skip ?_
                  | refine HoldsT.exit ?_)
              | (refine okTr_intro ?_; kernel_rfl)
              | exact absurd rfl h
              | exact rowN rfl rfl rfl
              | exact rowG2 rfl rfl rfl
              | refine allProp_C ?_ ?_
              | refine And.intro ?_ ?_
              | omega
              | (show _ < List.length _; omega)
              | exact rowlen_intro rfl
              | exact lenEq_intro rfl
              | exact Nat.le_of_ble_eq_true rfl
              | (simp only [AV.rowlenD, AV.rowlen, AV.ncells, mulSz, toN, Option.map_some, Option.map_none, cutL, List.length_take, List.length_drop, List.length_append, List.length_cons, List.length_nil, List.length_set, Option.some.injEq, Int.reduceToNat] <;> omega))
            · refine ⟨(3, ((overR ls u v c 1).at', ((overR ls u v c 1).old, (overR ls u v c 1).new))), ⟨by show (3 - (3 : Int)).toNat < (3 - (2 : Int)).toNat; decide, by simp⟩, ?_⟩
              refine WeakT.of ?_ ?_ (by kernel_rfl)
              · repeat' (first | exact TTle.junk _ _ | exact TTle.same _ | refine TTle.node ?_ ?_ | refine TTle.leaf ?_ | exact AVle.junk _ | exact AVle.rfl' rfl | exact AVle.nilS | exact AVle.nilB)
              · repeat' (first | exact OOle.none _ _ | exact OOle.same _ | refine OOle.node ?_ ?_ | exact OOle.leaf _ | exact OOle.gone _)
          · show HoldsT Tryd.prog _ (sh3b ls t r s u v c n 1 u v 3 A O N) _
            repeat' (first
              | refine allProp_T ?_
              | exact trivial
              | (refine URun.id ?_; first
                  | refine URun.nil ?_
                  | refine URun.many tabs2 rfl rfl (by kernel_rfl) ?_ ?_
                  | (refine URun.toCall 13 rfl ?_; first
                    | refine URun.call tabs2 rfl rfl rfl rfl (k13 _ _) rfl rfl ?_ rfl ?_)
                  | (refine URun.toCall 14 rfl ?_; first
                    | refine URun.call tabs2 rfl rfl rfl rfl (k14 _ _) rfl rfl ?_ rfl ?_)
                  | (refine URun.toCall 15 rfl ?_; first
                    | refine URun.call tabs2 rfl rfl rfl rfl (k15w _ _) rfl rfl ?_ rfl ?_
                    | refine URun.call tabs2 rfl rfl rfl rfl (k15o _ _ _) rfl rfl ?_ rfl ?_)
                  | (refine URun.toCall 16 rfl ?_; first
                    | refine URun.call tabs2 rfl rfl rfl rfl (k16 _ _ _) rfl rfl ?_ rfl ?_)
                  | (refine URun.toCall 17 rfl ?_; first
                    | refine URun.call tabs2 rfl rfl rfl rfl (k17 _ _ _) rfl rfl ?_ rfl ?_)
                  | refine URun.same tabs2 rfl rfl rfl ?_
                  | refine URun.same2 tabs2 rfl rfl rfl ?_
                  | refine URun.yes tabs2 rfl rfl (by decide) rfl ?_
                  | refine URun.no tabs2 rfl rfl (by decide) rfl ?_
                  | refine URun.yes tabs2 rfl rfl (fun h => h rfl) rfl ?_
                  | refine URun.no tabs2 rfl rfl (fun h => h rfl) rfl ?_
                  | refine URun.yes tabs2 rfl rfl (fun h => h ⟨rfl, rfl⟩) rfl ?_
                  | refine URun.no tabs2 rfl rfl (fun h => h ⟨rfl, rfl⟩) rfl ?_
                  | refine URun.yes tabs2 rfl rfl rfl rfl ?_
                  | refine URun.no tabs2 rfl rfl rfl rfl ?_
                  | refine URun.split tabs2 rfl rfl rfl rfl (fun h => ?_) (fun h => ?_))
              | (refine TRun.id ?_; first
                  | refine TRun.nil ?_
                  | refine TRun.many rfl rfl (by kernel_rfl) ?_ ?_
                  | (refine TRun.toCall 13 rfl ?_; first
                    | refine TRun.call rfl rfl rfl rfl (k13 _ _) rfl rfl ?_ rfl ?_)
                  | (refine TRun.toCall 14 rfl ?_; first
                    | refine TRun.call rfl rfl rfl rfl (k14 _ _) rfl rfl ?_ rfl ?_)
                  | (refine TRun.toCall 15 rfl ?_; first
                    | refine TRun.call rfl rfl rfl rfl (k15w _ _) rfl rfl ?_ rfl ?_
                    | refine TRun.call rfl rfl rfl rfl (k15o _ _ _) rfl rfl ?_ rfl ?_)
                  | (refine TRun.toCall 16 rfl ?_; first
                    | refine TRun.call rfl rfl rfl rfl (k16 _ _ _) rfl rfl ?_ rfl ?_)
                  | (refine TRun.toCall 17 rfl ?_; first
                    | refine TRun.call rfl rfl rfl rfl (k17 _ _ _) rfl rfl ?_ rfl ?_)
                  | refine TRun.same rfl rfl rfl ?_
                  | refine TRun.same2 rfl rfl rfl ?_
                  | refine TRun.yes rfl rfl (by decide) rfl ?_
                  | refine TRun.no rfl rfl (by decide) rfl ?_
                  | refine TRun.yes rfl rfl (fun h => h rfl) rfl ?_
                  | refine TRun.no rfl rfl (fun h => h rfl) rfl ?_
                  | refine TRun.yes rfl rfl (fun h => h ⟨rfl, rfl⟩) rfl ?_
                  | refine TRun.no rfl rfl (fun h => h ⟨rfl, rfl⟩) rfl ?_
                  | refine TRun.yes rfl rfl rfl rfl ?_
                  | refine TRun.no rfl rfl rfl rfl ?_
                  | refine TRun.split rfl rfl rfl rfl (fun h => ?_) (fun h => ?_))
              | (refine HoldsT.id ?_; first
                  | refine HoldsT.seq ?_
                  | refine HoldsT.regionU ?_
                  | refine HoldsT.drawn tabs2 ?_
                  | refine HoldsT.yes rfl ?_
                  | refine HoldsT.no rfl ?_
                  | refine HoldsT.cond rfl (fun h => ?_) (fun h => ?_)
                  | refine HoldsT.block ?_
                  | refine HoldsT.ret ?_
                  | refine HoldsT.skip ?_
                  | refine HoldsT.exit ?_)
              | (refine okTr_intro ?_; kernel_rfl)
              | exact absurd rfl h
              | exact rowN rfl rfl rfl
              | exact rowG2 rfl rfl rfl
              | refine allProp_C ?_ ?_
              | refine And.intro ?_ ?_
              | omega
              | (show _ < List.length _; omega)
              | exact rowlen_intro rfl
              | exact lenEq_intro rfl
              | exact Nat.le_of_ble_eq_true rfl
              | (simp only [AV.rowlenD, AV.rowlen, AV.ncells, mulSz, toN, Option.map_some, Option.map_none, cutL, List.length_take, List.length_drop, List.length_append, List.length_cons, List.length_nil, List.length_set, Option.some.injEq, Int.reduceToNat] <;> omega))
            · refine ⟨2, ⟨by decide, by decide⟩, ?_⟩
              refine WeakT.of ?_ ?_ (by kernel_rfl)
              · repeat' (first | exact TTle.junk _ _ | exact TTle.same _ | refine TTle.node ?_ ?_ | refine TTle.leaf ?_ | exact AVle.junk _ | exact AVle.rfl' rfl | exact AVle.nilS | exact AVle.nilB)
              · repeat' (first | exact OOle.none _ _ | exact OOle.same _ | refine OOle.node ?_ ?_ | exact OOle.leaf _ | exact OOle.gone _)
    · show HoldsT Tryd.prog _ (sh3a ls t r s u v c n 2) _
      repeat' (first
        | refine allProp_T ?_
        | exact trivial
        | (refine URun.id ?_; first
            | refine URun.nil ?_
            | refine URun.many tabs2 rfl rfl (by kernel_rfl) ?_ ?_
            | (refine URun.toCall 13 rfl ?_; first
              | refine URun.call tabs2 rfl rfl rfl rfl (k13 _ _) rfl rfl ?_ rfl ?_)
            | (refine URun.toCall 14 rfl ?_; first
              | refine URun.call tabs2 rfl rfl rfl rfl (k14 _ _) rfl rfl ?_ rfl ?_)
            | (refine URun.toCall 15 rfl ?_; first
              | refine URun.call tabs2 rfl rfl rfl rfl (k15w _ _) rfl rfl ?_ rfl ?_
              | refine URun.call tabs2 rfl rfl rfl rfl (k15o _ _ _) rfl rfl ?_ rfl ?_)
            | (refine URun.toCall 16 rfl ?_; first
              | refine URun.call tabs2 rfl rfl rfl rfl (k16 _ _ _) rfl rfl ?_ rfl ?_)
            | (refine URun.toCall 17 rfl ?_; first
              | refine URun.call tabs2 rfl rfl rfl rfl (k17 _ _ _) rfl rfl ?_ rfl ?_)
            | refine URun.same tabs2 rfl rfl rfl ?_
            | refine URun.same2 tabs2 rfl rfl rfl ?_
            | refine URun.yes tabs2 rfl rfl (by decide) rfl ?_
            | refine URun.no tabs2 rfl rfl (by decide) rfl ?_
            | refine URun.yes tabs2 rfl rfl (fun h => h rfl) rfl ?_
            | refine URun.no tabs2 rfl rfl (fun h => h rfl) rfl ?_
            | refine URun.yes tabs2 rfl rfl (fun h => h ⟨rfl, rfl⟩) rfl ?_
            | refine URun.no tabs2 rfl rfl (fun h => h ⟨rfl, rfl⟩) rfl ?_
            | refine URun.yes tabs2 rfl rfl rfl rfl ?_
            | refine URun.no tabs2 rfl rfl rfl rfl ?_
            | refine URun.split tabs2 rfl rfl rfl rfl (fun h => ?_) (fun h => ?_))
        | (refine TRun.id ?_; first
            | refine TRun.nil ?_
            | refine TRun.many rfl rfl (by kernel_rfl) ?_ ?_
            | (refine TRun.toCall 13 rfl ?_; first
              | refine TRun.call rfl rfl rfl rfl (k13 _ _) rfl rfl ?_ rfl ?_)
            | (refine TRun.toCall 14 rfl ?_; first
              | refine TRun.call rfl rfl rfl rfl (k14 _ _) rfl rfl ?_ rfl ?_)
            | (refine TRun.toCall 15 rfl ?_; first
              | refine TRun.call rfl rfl rfl rfl (k15w _ _) rfl rfl ?_ rfl ?_
              | refine TRun.call rfl rfl rfl rfl (k15o _ _ _) rfl rfl ?_ rfl ?_)
            | (refine TRun.toCall 16 rfl ?_; first
              | refine TRun.call rfl rfl rfl rfl (k16 _ _ _) rfl rfl ?_ rfl ?_)
            | (refine TRun.toCall 17 rfl ?_; first
              | refine TRun.call rfl rfl rfl rfl (k17 _ _ _) rfl rfl ?_ rfl ?_)
            | refine TRun.same rfl rfl rfl ?_
            | refine TRun.same2 rfl rfl rfl ?_
            | refine TRun.yes rfl rfl (by decide) rfl ?_
            | refine TRun.no rfl rfl (by decide) rfl ?_
            | refine TRun.yes rfl rfl (fun h => h rfl) rfl ?_
            | refine TRun.no rfl rfl (fun h => h rfl) rfl ?_
            | refine TRun.yes rfl rfl (fun h => h ⟨rfl, rfl⟩) rfl ?_
            | refine TRun.no rfl rfl (fun h => h ⟨rfl, rfl⟩) rfl ?_
            | refine TRun.yes rfl rfl rfl rfl ?_
            | refine TRun.no rfl rfl rfl rfl ?_
            | refine TRun.split rfl rfl rfl rfl (fun h => ?_) (fun h => ?_))
        | (refine HoldsT.id ?_; first
            | refine HoldsT.seq ?_
            | refine HoldsT.regionU ?_
            | refine HoldsT.drawn tabs2 ?_
            | refine HoldsT.yes rfl ?_
            | refine HoldsT.no rfl ?_
            | refine HoldsT.cond rfl (fun h => ?_) (fun h => ?_)
            | refine HoldsT.block ?_
            | refine HoldsT.ret ?_
            | refine HoldsT.skip ?_
            | refine HoldsT.exit ?_)
        | (refine okTr_intro ?_; kernel_rfl)
        | exact absurd rfl h
        | exact rowN rfl rfl rfl
        | exact rowG2 rfl rfl rfl
        | refine allProp_C ?_ ?_
        | refine And.intro ?_ ?_
        | omega
        | (show _ < List.length _; omega)
        | exact rowlen_intro rfl
        | exact lenEq_intro rfl
        | exact Nat.le_of_ble_eq_true rfl
        | (simp only [AV.rowlenD, AV.rowlen, AV.ncells, mulSz, toN, Option.map_some, Option.map_none, cutL, List.length_take, List.length_drop, List.length_append, List.length_cons, List.length_nil, List.length_set, Option.some.injEq, Int.reduceToNat] <;> omega))
      all_goals exact FinC.te (y := .bool true) rfl rfl trivial rfl
  · have hg' : (decide (0 < (ls.length : Int)) && lightL ls) = true → lightL t = true → False := fun x y => hg ⟨x, y⟩
    generalize (decide (0 < (ls.length : Int)) && lightL ls) = g1 at *
    generalize lightL t = g2 at *
    refine Pure.ofT tab2_ok Tryd.func3 rfl rfl [.tmp 14] rfl (by decide) rfl ⟨106, 7, (.node (.node (.node (.node (.node (.node (.node (.leaf (.slS ls)) (J 0)) (J 1)) (J 2)) (J 3)) (.node (.node (.node (.node (.leaf (.slS t)) (J 0)) (J 1)) (J 2)) (J 3))) (.node (.node (.node (.node (.node (.leaf (.int .u16 a)) (J 0)) (J 1)) (J 2)) (J 3)) (.node (.node (.node (.node (.leaf (.int .i64 n)) (J 0)) (J 1)) (J 2)) (J 3)))) (.node (.node (.node (.node (.node (.node (.leaf (.agg [.int .i64 r, .int .i64 s])) (J 0)) (J 1)) (J 2)) (J 3)) (.node (.node (.node (.node (.leaf (.int .u8 c)) (J 0)) (J 1)) (J 2)) (J 3))) (.node (.node (.node (.node (.node (.leaf (.int .u16 b)) (J 0)) (J 1)) (J 2)) (J 3)) (J 4)))), (OO 7)⟩ (by kernel_rfl) (by kernel_rfl) ?_
    repeat' (first
      | refine allProp_T ?_
      | exact trivial
      | (refine URun.id ?_; first
          | refine URun.nil ?_
          | refine URun.many tabs2 rfl rfl (by kernel_rfl) ?_ ?_
          | (refine URun.toCall 9 rfl ?_; first
            | refine URun.call tabs2 rfl rfl rfl rfl q9 rfl rfl ?_ rfl ?_)
          | (refine URun.toCall 10 rfl ?_; first
            | refine URun.callB tabs2 rfl rfl rfl rfl k27 rfl rfl ?_ rfl rfl (fun h => ?_) (fun h => ?_))
          | (refine URun.toCall 11 rfl ?_; first
            | refine URun.callB tabs2 rfl rfl rfl rfl k31 rfl rfl ?_ rfl rfl (fun h => ?_) (fun h => ?_))
          | refine URun.same tabs2 rfl rfl rfl ?_
          | refine URun.same2 tabs2 rfl rfl rfl ?_
          | refine URun.split tabs2 rfl rfl rfl rfl (fun h => ?_) (fun h => ?_))
      | (refine TRun.id ?_; first
          | refine TRun.nil ?_
          | refine TRun.many rfl rfl (by kernel_rfl) ?_ ?_
          | (refine TRun.toCall 9 rfl ?_; first
            | refine TRun.call rfl rfl rfl rfl q9 rfl rfl ?_ rfl ?_)
          | (refine TRun.toCall 10 rfl ?_; first
            | refine TRun.callB rfl rfl rfl rfl k27 rfl rfl ?_ rfl rfl (fun h => ?_) (fun h => ?_))
          | (refine TRun.toCall 11 rfl ?_; first
            | refine TRun.callB rfl rfl rfl rfl k31 rfl rfl ?_ rfl rfl (fun h => ?_) (fun h => ?_))
          | refine TRun.same rfl rfl rfl ?_
          | refine TRun.same2 rfl rfl rfl ?_
          | refine TRun.split rfl rfl rfl rfl (fun h => ?_) (fun h => ?_))
      | (refine HoldsT.id ?_; first
          | refine HoldsT.seq ?_
          | refine HoldsT.regionU ?_
          | refine HoldsT.drawn tabs2 ?_
          | refine HoldsT.yes rfl ?_
          | refine HoldsT.no rfl ?_
          | refine HoldsT.cond rfl (fun h => ?_) (fun h => ?_)
          | refine HoldsT.block ?_
          | refine HoldsT.ret ?_
          | refine HoldsT.skip ?_
          | refine HoldsT.exit ?_)
      | (refine okTr_intro ?_; kernel_rfl)
      | exact absurd rfl h
      | refine allProp_C ?_ ?_
      | refine And.intro ?_ ?_
      | omega
      | (show _ < List.length _; omega)
      | exact rowlen_intro rfl
      | exact lenEq_intro rfl
      | exact Nat.le_of_ble_eq_true rfl
      | (simp only [AV.rowlenD, AV.rowlen, AV.ncells, mulSz, toN, Option.map_some, Option.map_none, cutL, List.length_take, List.length_drop, List.length_append, List.length_cons, List.length_nil, List.length_set, Option.some.injEq, Int.reduceToNat] <;> omega))
    all_goals first | exact FinC.te (y := .bool true) rfl rfl trivial rfl | exact (hg' ‹_› ‹_›).elim

end Go.Proofs.YtefbgdnobnemkaaDoor.AM
