/-
  What the operator d does: bounds.
-/
import Derived.Test.YtefbgdnobnemkaaF29
set_option linter.unusedSimpArgs false
set_option linter.unusedVariables false
set_option linter.unusedSectionVars false
namespace Go.Proofs.Ytefbgdnobnemkaa.AM
open Go Go.RowKit

theorem mid_len {ls : List (List UInt8)} {a n : Int} (h0 : 0 ≤ a) (h1 : 0 ≤ n) (h2 : a + n ≤ ls.length) : ((midL ls a n).length : Int) = n := by
  simp only [midL, cutL, List.length_drop, List.length_take]; omega
theorem mid_getD_le {ls : List (List UInt8)} {a n : Int} {b : Nat} (hB : ∀ n : Nat, (ls.getD n []).length ≤ b) (i : Nat) : ((midL ls a n).getD i []).length ≤ b := getD_cut_le hB _ _ i
theorem each_getD_le {F : Int → List UInt8} {a : Int} {b m : Nat} (hF : ∀ i : Nat, i < m → (F (a + (i : Nat))).length ≤ b) (i : Nat) : ((eachL F a m).getD i []).length ≤ b := by
  rw [eachL_map, List.getD_eq_getElem?_getD, List.getElem?_map]
  by_cases hi : i < m
  · rw [List.getElem?_range hi]; exact hF i hi
  · rw [List.getElem?_eq_none (by simp; omega)]; simp

/-- A range that is cut out: what it is, told in bounds. -/
theorem cut_facts {ls : List (List UInt8)} {k fl fc tl tc : Int} {b : Nat} (hv : validL ls k fl fc tl tc = true) (hB : ∀ n : Nat, (ls.getD n []).length ≤ b) :
    (cutR ls k fl fc tl tc).ok = true ∧ (cutR ls k fl fc tl tc).at' = fl ∧ (cutR ls k fl fc tl tc).old = midL ls fl (tl - fl + 1) ∧ (cutR ls k fl fc tl tc).new.length ≤ ls.length + 1 ∧ (∀ n : Nat, ((cutR ls k fl fc tl tc).new.getD n []).length ≤ 2 * b) ∧
    (ls.length : Int) - (tl - fl + 1) + (cutR ls k fl fc tl tc).new.length ≠ 0 := by
  obtain ⟨hv1, hv2⟩ := validL_spec hv
  have e1 : ∀ (x : List UInt8), x.length ≤ 2 * b → ∀ n : Nat, (([x] : List (List UInt8)).getD n []).length ≤ 2 * b := fun x hx n => by
    match n with
    | 0 => simpa using hx
    | n + 1 => simp
  unfold cutR
  rw [if_pos hv]
  split
  · refine ⟨rfl, rfl, rfl, by simp, e1 _ ?_, by simp; omega⟩
    have h1 := hB fl.toNat
    have h2 := hB tl.toNat
    simp only [List.length_append, List.length_take, List.length_drop]; omega
  · split
    · refine ⟨rfl, rfl, rfl, by simp only [eachL_length]; omega, each_getD_le fun i hi => ?_, by simp only [eachL_length]; omega⟩
      have h1 := hB (fl + (i : Nat)).toNat
      simp only [holeL, List.length_append, List.length_take, List.length_drop]; omega
    · split
      · exact ⟨rfl, rfl, rfl, by simp, e1 _ (by simp), by simp; omega⟩
      · exact ⟨rfl, rfl, rfl, by simp, fun n => by simp, by simp; omega⟩

theorem cut_app {ls : List (List UInt8)} {k fl fc tl tc : Int} (hv : validL ls k fl fc tl tc = true) : appOk ls (cutR ls k fl fc tl tc).at' (cutR ls k fl fc tl tc).old (cutR ls k fl fc tl tc).new = true := by
  obtain ⟨hv1, hv2⟩ := validL_spec hv
  obtain ⟨b, hb⟩ : ∃ b : Nat, ∀ n : Nat, (ls.getD n []).length ≤ b := ⟨sumL ls, fun n => by
    rcases Nat.lt_or_ge n ls.length with h | h
    · have := sumL_take ls n h
      have h2 := sumL_le ls (n + 1)
      omega
    · rw [List.getD_eq_getElem?_getD, List.getElem?_eq_none h]; simp⟩
  obtain ⟨_, h2, h3, _, _, h6⟩ := cut_facts hv hb
  have hm := mid_len (ls := ls) (a := fl) (n := tl - fl + 1) (by omega) (by omega) (by omega)
  rw [h2, h3]
  refine decide_eq_true ⟨by omega, by omega, by omega, ?_, by omega⟩
  rw [hm]

theorem app_len {ls old new : List (List UInt8)} {a : Int} (h : appOk ls a old new = true) : ((appL ls a old new).length : Int) = ls.length - old.length + new.length := by
  have h' := of_decide_eq_true h
  unfold appL
  rw [if_pos h]
  simp only [cutL, List.length_append, List.length_take, List.length_drop]; omega

theorem p48d (ls : List (List UInt8)) (k fl fc tl tc n : Int) (hL : ls.length ≤ 1000000) (hB : ∀ n : Nat, (ls.getD n []).length ≤ 1000000) (hv : validL ls k fl fc tl tc = true) :
    Pure Try.prog 48 [.slS ls, .str [100], .agg [.int .i64 k, .int .i64 fl, .int .i64 fc, .int .i64 tl, .int .i64 tc], .int .i64 n] (doD ls k fl fc (cutR ls k fl fc tl tc)).av := by
  have k69 := p69d ls k fl fc tl tc n (by omega) (fun n => by have := hB n; omega) hv
  have hok := cut_app hv
  obtain ⟨h1, h2, h3, h4, h5, h6⟩ := cut_facts hv hB
  obtain ⟨hv1, hv2⟩ := validL_spec hv
  have hm := mid_len (ls := ls) (a := fl) (n := tl - fl + 1) (by omega) (by omega) (by omega)
  rcases hc : cutR ls k fl fc tl tc with ⟨ok, a, old, new⟩
  rw [hc] at k69 hok h1 h2 h3 h4 h5 h6
  simp only at hok h1 h2 h3 h4 h5 h6
  subst h1
  have s := appL_small (ls := ls) (old := old) (new := new) (a := a) (b := 2 * 1000000) (fun n => by have := hB n; omega) h5
  have hl := app_len hok
  have ho : (old.length : Int) = tl - fl + 1 := by rw [h3]; exact hm
  exact p48w ls k fl fc tl tc n (by omega) (fun n => by have := hB n; omega) hv a old new (by omega) (by omega) (by omega) (fun n => by have := s.2 n; omega) (by omega) hok k69

end Go.Proofs.Ytefbgdnobnemkaa.AM
