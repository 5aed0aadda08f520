/-
  What a cut takes out: sizes.
-/
import Derived.Test.YtefbgdnobnemkaaF31
set_option linter.unusedSimpArgs false
set_option linter.unusedVariables false
set_option linter.unusedSectionVars false
namespace Go.Proofs.Ytefbgdnobnemkaa.AM
open Go Go.RowKit

theorem sumL_append (a b : List (List UInt8)) : sumL (a ++ b) = sumL a + sumL b := by simp [sumL]
/-- A sum over the first n. -/
def sumF (f : Nat → Nat) : Nat → Nat
  | 0 => 0
  | n + 1 => sumF f n + f n
theorem sumF_add {f g h : Nat → Nat} : ∀ {n : Nat}, (∀ i, i < n → f i + g i = h i) → sumF f n + sumF g n = sumF h n
  | 0, _ => rfl
  | n + 1, H => by
    have h1 := sumF_add (n := n) (fun i hi => H i (by omega))
    have h2 := H n (by omega)
    simp only [sumF]; omega
theorem sumF_zero {f : Nat → Nat} : ∀ {n : Nat}, (∀ i, i < n → f i = 0) → sumF f n = 0
  | 0, _ => rfl
  | n + 1, H => by
    have h1 := sumF_zero (n := n) (fun i hi => H i (by omega))
    have h2 := H n (by omega)
    simp only [sumF]; omega
theorem sumF_congr {f g : Nat → Nat} {n : Nat} (H : ∀ i, i < n → f i = g i) : sumF f n = sumF g n := by
  have := sumF_add (f := f) (g := fun _ => 0) (h := g) (n := n) (fun i hi => by have := H i hi; omega)
  have z := sumF_zero (f := fun _ => 0) (n := n) (fun _ _ => rfl)
  omega
theorem sumF_first (x : Nat) : ∀ m : Nat, sumF (fun i => if i = 0 then x else 0) (m + 1) = x
  | 0 => by simp [sumF]
  | m + 1 => by
    have := sumF_first x m
    rw [sumF, this]; simp
theorem sumF_last (x : Nat) (m : Nat) : sumF (fun i => if i = m then x else 0) (m + 1) = x := by
  rw [sumF, sumF_zero (fun i hi => if_neg (by omega))]; simp
theorem sumL_map (F : Nat → List UInt8) : ∀ n : Nat, sumL ((List.range n).map F) = sumF (fun i => (F i).length) n
  | 0 => rfl
  | n + 1 => by
    rw [List.range_succ, List.map_append, sumL_append, sumL_map F n, sumF]
    simp [sumL]
theorem mid_map {ls : List (List UInt8)} {a n : Int} (h0 : 0 ≤ a) (h1 : 0 ≤ n) (h2 : a + n ≤ ls.length) : midL ls a n = (List.range n.toNat).map fun i => ls.getD (a + (i : Nat)).toNat [] := by
  apply List.ext_getElem?
  intro i
  simp only [midL, cutL, List.getElem?_drop, List.getElem?_map]
  by_cases hi : i < n.toNat
  · rw [List.getElem?_take_of_lt (by omega), List.getElem?_range hi, Option.map_some, List.getD_eq_getElem?_getD, show a.toNat + i = (a + (i : Nat)).toNat by omega, List.getElem?_eq_getElem (by omega)]; rfl
  · rw [List.getElem?_eq_none (by simp; omega), List.getElem?_eq_none (by simp; omega)]; rfl
theorem sum_parts {ls : List (List UInt8)} {a n : Int} (h0 : 0 ≤ a) (h1 : 0 ≤ n) (h2 : a + n ≤ ls.length) : sumL ls = sumL (ls.take a.toNat) + sumF (fun i => (ls.getD (a + (i : Nat)).toNat []).length) n.toNat + sumL (ls.drop (a + n).toNat) := by
  rw [← sumL_map, ← mid_map h0 h1 h2, ← sumL_append, ← sumL_append]
  congr 1
  simp only [midL, cutL]
  have e : ls.take (a + n).toNat = ls.take a.toNat ++ (ls.take (a + n).toNat).drop a.toNat := by
    have := (List.take_append_drop a.toNat (ls.take (a + n).toNat)).symm
    rwa [List.take_take, Nat.min_eq_left (by omega)] at this
  rw [← e, List.take_append_drop]

/-- What is taken out and what is left are, by size, what was there. -/
theorem cut_sizes {ls : List (List UInt8)} {k fl fc tl tc : Int} (hv : validL ls k fl fc tl tc = true) :
    let t := textL ls k fl fc tl tc
    let r := cutR ls k fl fc tl tc
    let now := appL ls r.at' r.old r.new
    (k = 0 → (sizeL ls : Int) = sizeL now + sizeL t - 1) ∧ (k = 2 → (sizeL ls : Int) = sizeL now + sizeL t - t.length) ∧ (k ≠ 0 → k ≠ 2 → (t.length = ls.length → sizeL now = 1 ∧ sizeL t = sizeL ls) ∧ (t.length ≠ ls.length → (sizeL ls : Int) = sizeL now + sizeL t)) := by
  obtain ⟨hv1, hv2⟩ := validL_spec hv
  have hok := cut_app hv
  have ha : (cutR ls k fl fc tl tc).at' = fl := (cut_facts (b := sumL ls + sumL ls) hv (fun n => by
    rcases Nat.lt_or_ge n ls.length with h | h
    · have := sumL_take ls n h
      have h2 := sumL_le ls (n + 1)
      omega
    · rw [List.getD_eq_getElem?_getD, List.getElem?_eq_none h]; simp)).2.1
  have ho : (cutR ls k fl fc tl tc).old = midL ls fl (tl - fl + 1) := (cut_facts (b := sumL ls + sumL ls) hv (fun n => by
    rcases Nat.lt_or_ge n ls.length with h | h
    · have := sumL_take ls n h
      have h2 := sumL_le ls (n + 1)
      omega
    · rw [List.getD_eq_getElem?_getD, List.getElem?_eq_none h]; simp)).2.2.1
  have hm := mid_len (ls := ls) (a := fl) (n := tl - fl + 1) (by omega) (by omega) (by omega)
  have hs := sum_parts (ls := ls) (a := fl) (n := tl - fl + 1) (by omega) (by omega) (by omega)
  have ht : textL ls k fl fc tl tc = (List.range (tl - fl + 1).toNat).map fun i => rowT ls k fl fc tl tc (fl + (i : Nat)) := by
    unfold textL; rw [if_pos hv, rowsT_map]
  have htl : (textL ls k fl fc tl tc).length = (tl - fl + 1).toNat := by rw [ht]; simp
  have hts : sumL (textL ls k fl fc tl tc) = sumF (fun i => (rowT ls k fl fc tl tc (fl + (i : Nat))).length) (tl - fl + 1).toNat := by rw [ht, sumL_map]
  have hnow : ∀ new, cutR ls k fl fc tl tc = ⟨true, fl, midL ls fl (tl - fl + 1), new⟩ → (sizeL (appL ls (cutR ls k fl fc tl tc).at' (cutR ls k fl fc tl tc).old (cutR ls k fl fc tl tc).new)) = sumL (ls.take fl.toNat) + sumL new + sumL (ls.drop (fl + (tl - fl + 1)).toNat) + (fl.toNat + new.length + (ls.length - (fl + (tl - fl + 1)).toNat)) := fun new e => by
    rw [appL, if_pos hok, e]
    simp only [hm, cutL]
    unfold sizeL
    rw [sumL_append, sumL_append]
    simp only [List.length_append, List.length_take, List.length_drop]
    omega
  have hrow : ∀ i : Nat, i < (tl - fl + 1).toNat → ((rowT ls k fl fc tl tc (fl + (i : Nat))).length : Int) = colT ls k tl tc (fl + (i : Nat)) - colF ls k fl fc (fl + (i : Nat)) ∧ 0 ≤ colF ls k fl fc (fl + (i : Nat)) ∧ colT ls k tl tc (fl + (i : Nat)) ≤ ((ls.getD (fl + (i : Nat)).toNat []).length : Int) ∧ colF ls k fl fc (fl + (i : Nat)) ≤ colT ls k tl tc (fl + (i : Nat)) := fun i hi => by
    obtain ⟨q1, q2, q3⟩ := cols_ok hv (i := fl + (i : Nat)) (by omega) (by omega)
    have q3 : colT ls k tl tc (fl + (i : Nat)) ≤ ((ls.getD (fl + (i : Nat)).toNat []).length : Int) := q3
    refine ⟨?_, q1, q3, q2⟩
    simp only [rowT, cutL, List.length_drop, List.length_take]; omega
  simp only
  refine ⟨fun hk => ?_, fun hk => ?_, fun hk0 hk2 => ?_⟩
  · subst hk
    have e : cutR ls 0 fl fc tl tc = ⟨true, fl, midL ls fl (tl - fl + 1), [(ls.getD fl.toNat []).take fc.toNat ++ (ls.getD tl.toNat []).drop tc.toNat]⟩ := by unfold cutR; rw [if_pos hv, if_pos rfl]
    have c1 : ∀ z, colF ls 0 fl fc z = if z = fl then fc else 0 := fun _ => if_pos rfl
    have c2 : ∀ z, colT ls 0 tl tc z = if z = tl then tc else lenL ls z := fun _ => if_pos rfl
    have hn := hnow _ e
    have hz : (0 ≤ fc ∧ fc ≤ ((ls.getD fl.toNat []).length : Int)) ∧ (0 ≤ tc ∧ tc ≤ ((ls.getD tl.toNat []).length : Int)) := by
      rcases hv2 with ⟨_, q1, q2, _⟩ | q | q
      · exact ⟨q1, q2⟩
      · omega
      · omega
    obtain ⟨m, hmm⟩ : ∃ m : Nat, (tl - fl + 1).toNat = m + 1 := ⟨(tl - fl).toNat, by omega⟩
    have s1 := sumF_first fc.toNat m
    have s2 := sumF_last ((ls.getD tl.toNat []).length - tc.toNat) m
    have s3 := sumF_add (f := fun i => if i = 0 then fc.toNat else 0) (g := fun i => if i = m then (ls.getD tl.toNat []).length - tc.toNat else 0) (h := fun i => (if i = 0 then fc.toNat else 0) + (if i = m then (ls.getD tl.toNat []).length - tc.toNat else 0)) (n := m + 1) (fun _ _ => rfl)
    have s4 := sumF_add (f := fun i => (rowT ls 0 fl fc tl tc (fl + (i : Nat))).length) (g := fun i => (if i = 0 then fc.toNat else 0) + (if i = m then (ls.getD tl.toNat []).length - tc.toNat else 0)) (h := fun i => (ls.getD (fl + (i : Nat)).toNat []).length) (n := m + 1) (fun i hi => by
      obtain ⟨q1, q2, q3, q4⟩ := hrow i (by omega)
      rw [c1] at q1 q2 q4
      rw [c2] at q1 q3 q4
      unfold lenL at q1 q3 q4
      have q0 : (if (fl + (i : Nat) : Int) = fl then fc else 0) = ((if i = 0 then fc.toNat else 0 : Nat) : Int) := by
        by_cases h0 : i = 0
        · rw [if_pos (by omega), if_pos h0]; omega
        · rw [if_neg (by omega), if_neg h0]; rfl
      rw [q0] at q1 q2 q4
      by_cases hi2 : i = m
      · have e3 : fl + (i : Nat) = tl := by omega
        rw [if_pos e3] at q1 q3 q4
        rw [e3] at q1 ⊢
        simp only [if_pos hi2]
        omega
      · rw [if_neg (show ¬ (fl + (i : Nat) : Int) = tl by omega)] at q1 q3 q4
        simp only [if_neg hi2]
        omega)
    rw [hn]
    unfold sizeL
    rw [hts, htl, hmm]
    rw [hmm] at hs
    simp only [sumL, List.map_cons, List.map_nil, List.sum_cons, List.sum_nil, List.length_append, List.length_take, List.length_drop, List.length_cons, List.length_nil] at hs ⊢
    omega
  · have e : cutR ls k fl fc tl tc = ⟨true, fl, midL ls fl (tl - fl + 1), eachL (holeL ls k fl fc tl tc) fl (tl - fl + 1).toNat⟩ := by unfold cutR; rw [if_pos hv, if_neg (by omega), if_pos hk]
    have hn := hnow _ e
    have s4 := sumF_add (f := fun i => (rowT ls k fl fc tl tc (fl + (i : Nat))).length) (g := fun i => (holeL ls k fl fc tl tc (fl + (i : Nat))).length) (h := fun i => (ls.getD (fl + (i : Nat)).toNat []).length) (n := (tl - fl + 1).toNat) (fun i hi => by
      obtain ⟨q1, q2, q3, q4⟩ := hrow i (by omega)
      simp only [holeL, List.length_append, List.length_take, List.length_drop]
      omega)
    rw [hn, eachL_length, eachL_map, sumL_map]
    unfold sizeL
    rw [hts, htl]
    omega
  · have hwhole : ∀ i : Nat, i < (tl - fl + 1).toNat → (rowT ls k fl fc tl tc (fl + (i : Nat))).length = (ls.getD (fl + (i : Nat)).toNat []).length := fun i hi => by
      obtain ⟨q1, q2, q3, q4⟩ := hrow i hi
      unfold colF at q1
      unfold colT lenL at q1
      rw [if_neg hk0, if_neg hk2, if_neg hk0, if_neg hk2] at q1
      omega
    have s5 := sumF_congr hwhole
    by_cases hw : tl - fl + 1 = ls.length
    · have e : cutR ls k fl fc tl tc = ⟨true, fl, midL ls fl (tl - fl + 1), [[]]⟩ := by unfold cutR; rw [if_pos hv, if_neg hk0, if_neg hk2, if_pos hw]
      have hn := hnow _ e
      have hf : fl = 0 := by omega
      have d1 : ls.drop (fl + (tl - fl + 1)).toNat = [] := List.drop_eq_nil_of_le (by omega)
      have d2 : ls.take fl.toNat = [] := by rw [hf]; rfl
      rw [d1, d2] at hn hs
      refine ⟨fun _ => ⟨?_, ?_⟩, fun h => absurd htl (by omega)⟩
      · rw [hn]
        simp only [sumL, List.map_cons, List.map_nil, List.sum_cons, List.sum_nil, List.length_cons, List.length_nil]
        omega
      · unfold sizeL
        rw [hts, htl, s5]
        simp only [sumL, List.map_nil, List.sum_nil] at hs ⊢
        omega
    · have e : cutR ls k fl fc tl tc = ⟨true, fl, midL ls fl (tl - fl + 1), []⟩ := by unfold cutR; rw [if_pos hv, if_neg hk0, if_neg hk2, if_neg hw]
      have hn := hnow _ e
      refine ⟨fun h => absurd h (by omega), fun _ => ?_⟩
      rw [hn]
      unfold sizeL
      rw [hts, htl, s5]
      simp only [sumL, List.map_nil, List.sum_nil, List.length_nil] at hs ⊢
      omega

end Go.Proofs.Ytefbgdnobnemkaa.AM
