/-
  A shift and the shift back.
-/
import Derived.Test.YtefbgdnobnemkaaF37
set_option linter.unusedSimpArgs false
set_option linter.unusedVariables false
set_option linter.unusedSectionVars false
namespace Go.Proofs.Ytefbgdnobnemkaa.AM
open Go Go.RowKit

theorem firstL_in (s : List UInt8) : 0 ≤ firstL s ∧ firstL s ≤ max ((s.length : Int) - 1) 0 := by
  unfold firstL
  split <;> omega
theorem blank_spc : ∀ n : Nat, (List.replicate n (32 : UInt8)).all blankB = true := fun n => by
  rw [List.all_eq_true]
  intro x hx
  rw [List.eq_of_mem_replicate hx]
  rfl
theorem shift_back {s : List UInt8} {m : Int} (hm : 0 ≤ m) : shLf (shR s m) m = s := by
  unfold shR
  split
  · rename_i h; subst h; simp [shLf]
  · have e : (m * 4).toNat ≤ leadL (spc (m * 4) ++ s) := lead_ge (by
      unfold spc
      rw [List.take_append_of_le_length (by simp), List.take_of_length_le (by simp)]
      exact blank_spc _) (by simp [spc])
    unfold shLf
    rw [Nat.min_eq_right e]
    have : (spc (m * 4)).length = (m * 4).toNat := spc_len
    rw [← this, List.drop_left]

/-- Lines that are put in the place of as many. -/
theorem app_each {ls : List (List UInt8)} {fl tl : Int} {F : Int → List UInt8} (h0 : 0 ≤ fl) (h1 : fl ≤ tl) (h2 : tl < ls.length) :
    appOk ls fl (midL ls fl (tl - fl + 1)) (eachL F fl (tl - fl + 1).toNat) = true ∧ (appL ls fl (midL ls fl (tl - fl + 1)) (eachL F fl (tl - fl + 1).toNat)).length = ls.length ∧
    ∀ i : Nat, (appL ls fl (midL ls fl (tl - fl + 1)) (eachL F fl (tl - fl + 1).toNat)).getD i [] = if fl ≤ (i : Int) ∧ (i : Int) ≤ tl then F i else ls.getD i [] := by
  have hm := mid_len (ls := ls) (a := fl) (n := tl - fl + 1) h0 (by omega) (by omega)
  have hn := eachL_length F fl (tl - fl + 1).toNat
  have ok : appOk ls fl (midL ls fl (tl - fl + 1)) (eachL F fl (tl - fl + 1).toNat) = true := by
    refine decide_eq_true ⟨by omega, by omega, by omega, ?_, by omega⟩
    rw [hm]
  have hl := app_len ok
  refine ⟨ok, by omega, fun i => ?_⟩
  have hl1 : (ls.take fl.toNat).length = fl.toNat := by rw [List.length_take]; omega
  unfold appL
  rw [if_pos ok, hm]
  simp only [cutL, List.getD_eq_getElem?_getD, List.append_assoc]
  rw [List.getElem?_append, hl1]
  by_cases c1 : i < fl.toNat
  · rw [if_pos c1, if_neg (by omega), List.getElem?_take_of_lt c1]
  · rw [if_neg c1, List.getElem?_append, hn]
    by_cases c2 : i - fl.toNat < (tl - fl + 1).toNat
    · rw [if_pos c2, if_pos (by omega), eachL_map, List.getElem?_map, List.getElem?_range c2]
      simp only [Option.map_some, Option.getD_some]
      congr 1; omega
    · rw [if_neg c2, if_neg (by omega), List.getElem?_drop]
      congr 2; omega

end Go.Proofs.Ytefbgdnobnemkaa.AM
