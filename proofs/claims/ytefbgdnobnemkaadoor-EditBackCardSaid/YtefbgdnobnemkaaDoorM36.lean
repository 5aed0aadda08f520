/-
  The abstract machine: a field that holds nothing yet holds a row of the call.
-/
import Derived.Test.YtefbgdnobnemkaaDoorK3
set_option linter.unusedSimpArgs false
set_option linter.unusedVariables false
set_option linter.unusedSectionVars false
namespace Go.Proofs.YtefbgdnobnemkaaDoor.AM
open Go Go.RowKit

theorem OOle.eq {x y : Option Obj} (h : x = y) : OOle (.leaf x) (.leaf y) := h ▸ .leaf x

theorem set_getElem?_cases {α : Type} {l : List α} {j i : Nat} {y x : α} (h : (l.set j y)[i]? = some x) : (i = j ∧ x = y ∧ j < l.length) ∨ (i ≠ j ∧ l[i]? = some x) := by
  rw [List.getElem?_set] at h
  split at h
  · rename_i e
    subst e
    split at h
    · rename_i h2; cases h; exact .inl ⟨rfl, rfl, h2⟩
    · cases h
  · rename_i e
    exact .inr ⟨fun h => e h.symm, h⟩

/-- A field that is nothing yet is a row of the call, d its name. -/
theorem Weak.canonF {s s' : AState} (d0 j d : Nat) (e : TypeId) (c : AV) {ob : Obj} {cells : List AV} (hc : c.rowlen = some 0) (hcm : ∀ i x, c.cell? i = some x → False) (hob : s.obj d0 = some ob) (hcells : ob.c = .agg cells) (hj : cells[j]? = some .nilsl) (hf : freshB s d = true) (hne : d0 ≠ d)
    (hs' : (s.upd d (some ⟨true, true, c, e⟩)).upd d0 (some { ob with c := .agg (cells.set j (.own d 0)) }) = s') : Weak s s' := ⟨fun w0 A0 a w hs => by
  subst hs'
  obtain ⟨A, ρ, hs⟩ := hs
  have h1 := hs.newobj (d := d) (w' := w) (ro := .row (.slice none 0 0) 0) (ob := ⟨true, true, c, e⟩) (fresh_of hf) (.refl _ _) (fun b hb => by cases hb) ⟨hc, ⟨[], ⟨by simp, .inl ⟨rfl, rfl⟩⟩, fun i x hx => (hcm i x hx).elim⟩, fun b hb => by cases hb⟩
  have hob1 : (s.upd d (some ⟨true, true, c, e⟩)).obj d0 = some ob := by
    rw [AState.obj_upd, if_neg (fun h => hne h.1.symm)]; exact hob
  refine ⟨A, _, ⟨h1.defers, h1.len, h1.tmps, h1.below, h1.bound, h1.orig, h1.keep, h1.rbound, h1.inj, fun x => ?_⟩⟩
  rw [AState.obj_upd]
  by_cases hx : d0 = x ∧ d0 < (s.upd d (some ⟨true, true, c, e⟩)).objs.length
  · rw [if_pos hx]
    obtain ⟨rfl, _⟩ := hx
    have := h1.objs d0
    rw [hob1] at this
    obtain ⟨o, ho, hok⟩ := this
    refine ⟨o, ho, ?_⟩
    cases o with
    | box b =>
      obtain ⟨k0, k1, k2, k3, k4, k5⟩ := hok
      refine ⟨rfl, k1, k2, k3, k4, fun i x hx => ?_⟩
      rcases set_getElem?_cases (l := cells) hx with ⟨rfl, rfl, _⟩ | ⟨_, hx⟩
      · obtain ⟨q1, v, q2, q3, q4⟩ := k5 i .nilsl (by rw [hcells]; exact hj)
        refine ⟨q1, v, q2, q3, .own d 0 v q3 fun o u len ho hv => ?_⟩
        rw [Rho.set_same] at ho; cases ho
        cases hv
        exact ⟨Nat.le_refl _, fun _ => q4.nilsl_inv⟩
      · exact k5 i x (by rw [hcells]; exact hx)
    | fix b n cap =>
      obtain ⟨_, _, h0, _⟩ := hok
      rw [hcells] at h0; cases h0
    | row u n =>
      obtain ⟨h0, _⟩ := hok
      rw [hcells] at h0; cases h0
  · rw [if_neg hx]; exact h1.objs x⟩

theorem WeakT.canonF {T T1 : TS} (d0 j d : Nat) (e : TypeId) (c : AV) {ob : Obj} {cells : List AV} (hc : c.rowlen = some 0) (hcm : c.ncells = 0) (hob : T.obj d0 = some ob) (hcells : ob.c = .agg cells) (hj : cells[j]? = some .nilsl) (hf : T.freshA [d] = true) (hne : Nat.beq d0 d = false)
    (hs : (T.appF none .junk [(d, some ⟨true, true, c, e⟩), (d0, some { ob with c := .agg (cells.set j (.own d 0)) })] some) = some T1) : WeakT T T1 := ⟨fun hg => by
  rw [TS.appF_eq] at hs
  cases hs
  have h1 := TS.app_st hg none .junk [(d, some ⟨true, true, c, e⟩), (d0, some { ob with c := .agg (cells.set j (.own d 0)) })]
  refine ⟨h1.2, ?_⟩
  rw [h1.1]
  refine Weak.canonF d0 j d e c hc (fun i x h => ?_) (by rw [TS.st_obj]; exact hob) hcells hj (by simpa [TS.freshA] using hf) (fun h => by subst h; simp at hne) rfl
  have := AV.cell?_lt h
  omega⟩

end Go.Proofs.YtefbgdnobnemkaaDoor.AM
