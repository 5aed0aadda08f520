/-
  Steps of the world under the abstract machine: something new is made; an object is written; an object is written no more.
-/
import Derived.Test.YtefbgdnobnemkaaM3
namespace Go.Proofs.Ytefbgdnobnemkaa.AM
open Go Go.RowKit

def Rho.set (ρ : Rho) (d : Nat) (o : RO) : Rho := fun x => if x = d then some o else ρ x

theorem Rho.set_same (ρ : Rho) (d : Nat) (o : RO) : ρ.set d o d = some o := by simp [Rho.set]
theorem Rho.set_other (ρ : Rho) {d x : Nat} (o : RO) (h : x ≠ d) : ρ.set d o x = ρ x := by simp [Rho.set, h]

theorem cell?_same {w w' : World} {b i : Nat} (h : w'.heap[b]? = w.heap[b]?) : w'.cell? ⟨b, i, none⟩ = w.cell? ⟨b, i, none⟩ := World.cell?_of_block (w := w) h
theorem frozen?_same {w w' : World} {b i : Nat} (h : w'.heap[b]? = w.heap[b]?) : w'.frozen? ⟨b, i, none⟩ = w.frozen? ⟨b, i, none⟩ := World.frozen?_of_block (w := w) h

theorem ownsRow_same {w w' : World} {B : Nat} {e : TypeId} {sz : Nat} {v : Value} {n : Nat} {xs : List Value} (h : w.ownsRow B e sz v n xs)
    (hw : ∀ b, v.ownBlock = some b → w'.heap[b]? = w.heap[b]?) : w'.ownsRow B e sz v n xs := by
  refine ⟨h.1, ?_⟩
  rcases h.2 with h | ⟨g, cap, cur, rfl, h1, h2, h3, h4, h5, h6⟩
  · exact .inl h
  · exact .inr ⟨g, cap, cur, rfl, h1, (hw g rfl).trans h2, h3, h4, h5, h6⟩

/-- An object that nobody touches stays as it was. -/
theorem ObjOk.later {ρ ρ' : Rho} {A A' : Nat → Prop} {B0 : Nat} {w w' : World} {ob : Obj} {o : RO} (h : ObjOk ρ A B0 w ob o)
    (hA : ∀ b, A b → A' b) (hAo : ∀ b, o.blk? = some b → A' b → A b) (hw : ∀ b, A b → w'.heap[b]? = w.heap[b]?) (hwo : ∀ b, o.blk? = some b → w'.heap[b]? = w.heap[b]?)
    (hs : w.heap.size ≤ w'.heap.size) (hρ : ∀ d ∈ ob.c.ments, ∀ o', ρ' d = some o' → ∃ o, ρ d = some o ∧ o.le o') : ObjOk ρ' A' B0 w' ob o := by
  cases o with
  | box b =>
    obtain ⟨h0, h1, h2, h3, h4, h5⟩ := h
    refine ⟨h0, h1, by omega, fun hw h => h3 hw (hAo b rfl h), fun h => hA b (h4 h), fun i x hx => ?_⟩
    obtain ⟨h6, v, h7, h8, h9⟩ := h5 i x hx
    exact ⟨by rw [frozen?_same (hwo b rfl)]; exact h6, v, by rw [cell?_same (hwo b rfl)]; exact h7, h8, h9.later hA hw fun d hd => hρ d (AV.cell?_ments hx hd)⟩
  | fix b n cap =>
    obtain ⟨happ, h0, h00, h1, h2, h3, h4, h5⟩ := h
    refine ⟨happ, h0, h00, h1, by omega, fun hw h => h3 hw (hAo b rfl h), fun h => hA b (h4 h), fun i x hx => ?_⟩
    obtain ⟨h6, v, h7, h8, h9⟩ := h5 i x hx
    exact ⟨by rw [frozen?_same (hwo b rfl)]; exact h6, v, by rw [cell?_same (hwo b rfl)]; exact h7, h8, h9.later hA hw fun d hd => hρ d (AV.cell?_ments hx hd)⟩
  | row u n =>
    obtain ⟨h0, ⟨vs, h1, h2⟩, h3⟩ := h
    refine ⟨h0, ⟨vs, ownsRow_same h1 hwo, fun i x hx => ?_⟩, fun b hb => ?_⟩
    · obtain ⟨v, h7, h8, h9⟩ := h2 i x hx
      exact ⟨v, h7, h8, h9.later hA hw fun d hd => hρ d (AV.cell?_ments hx hd)⟩
    · obtain ⟨h4, h5, h6⟩ := h3 b hb
      exact ⟨by omega, fun hw h => h5 hw (hAo b hb h), fun h => hA b (h6 h)⟩

theorem AState.obj_upd (s : AState) (d x : Nat) (o : Option Obj) : (s.upd d o).obj x = if d = x ∧ d < s.objs.length then o else s.obj x := by
  exact getD_set s.objs d x o none

section
variable {w0 : World} {A0 A : Nat → Prop} {ρ : Rho} {s : AState} {a : Act} {w w' : World}

/-- More memory, or a draw. -/
theorem St.grow (h : St w0 A0 A ρ s a w) (hb : Below w.heap.size w w') : St w0 A0 A ρ s a w' := by
  refine ⟨h.defers, h.len, fun i => (h.tmps i).mono (fun _ h => h) (fun b hb' => hb.block b (h.bound b hb')) (fun _ _ => rfl), h.below.trans (hb.mono h.below.size), fun b hb' => Nat.lt_of_lt_of_le (h.bound b hb') hb.size,
    h.orig, h.keep, fun d o b ho hbo => Nat.lt_of_lt_of_le (h.rbound d o b ho hbo) hb.size, h.inj, fun d => ?_⟩
  have := h.objs d
  split
  · trivial
  · rename_i ob hob
    simp only [hob] at this
    obtain ⟨o, ho, hok⟩ := this
    exact ⟨o, ho, hok.later (fun _ h => h) (fun _ _ h => h) (fun b hb' => hb.block b (h.bound b hb')) (fun b hbo => hb.block b (h.rbound d o b ho hbo)) hb.size (fun d _ o' ho' => ⟨o', ho', RO.le_refl o'⟩)⟩

/-- A new object. -/
theorem St.newobj (h : St w0 A0 A ρ s a w) {d : Nat} (hf : s.fresh d) (hb : Below w.heap.size w w') {ob : Obj} {ro : RO}
    (hblk : ∀ b, ro.blk? = some b → w.heap.size ≤ b ∧ b < w'.heap.size) (hok : ObjOk (ρ.set d ro) A w0.heap.size w' ob ro) :
    St w0 A0 A (ρ.set d ro) (s.upd d (some ob)) a w' := by
  have h' := h.grow hb
  refine ⟨h.defers, h.len, fun i => (h'.tmps i).mono (fun _ h => h) (fun _ _ => rfl) (fun x hx => Rho.set_other ρ ro (fun e => hf.1 i (e ▸ hx))), h'.below, h'.bound, h.orig, h.keep, fun x o b ho hbo => ?_, fun x x' o o' b ho ho' hbo hbo' => ?_, fun x => ?_⟩
  · by_cases hx : x = d
    · subst hx; rw [Rho.set_same] at ho; cases ho; exact (hblk b hbo).2
    · rw [Rho.set_other ρ ro hx] at ho; exact h'.rbound x o b ho hbo
  · by_cases hx : x = d
    · subst hx
      rw [Rho.set_same] at ho; cases ho
      by_cases hx' : x' = x
      · exact hx'.symm
      · rw [Rho.set_other ρ ro hx'] at ho'
        have := h.rbound x' o' b ho' hbo'
        have := (hblk b hbo).1
        omega
    · rw [Rho.set_other ρ ro hx] at ho
      by_cases hx' : x' = d
      · subst hx'
        rw [Rho.set_same] at ho'; cases ho'
        have := h.rbound x o b ho hbo
        have := (hblk b hbo').1
        omega
      · rw [Rho.set_other ρ ro hx'] at ho'
        exact h.inj x x' o o' b ho ho' hbo hbo'
  · rw [AState.obj_upd]
    by_cases hx : d = x
    · subst hx
      by_cases hl : d < s.objs.length
      · simp only [hl, and_self, if_true]; exact ⟨ro, Rho.set_same _ _ _, hok⟩
      · have : s.obj d = none := by simp [AState.obj, List.getD_eq_getElem?_getD, List.getElem?_eq_none (Nat.le_of_not_lt hl)]
        simp [hl, this]
    · simp only [hx, false_and, if_false]
      have := h'.objs x
      split
      · trivial
      · rename_i ob' hob'
        simp only [hob'] at this
        obtain ⟨o, ho, hok'⟩ := this
        refine ⟨o, by rw [Rho.set_other ρ ro (Ne.symm hx)]; exact ho, hok'.later (fun _ h => h) (fun _ _ h => h) (fun _ _ => rfl) (fun _ _ => rfl) (Nat.le_refl _) (fun y hy o' ho' => ⟨o', ?_, RO.le_refl o'⟩)⟩
        rw [Rho.set_other ρ ro (x := y) (fun e => hf.2 x ob' (Ne.symm hx) hob' (by rw [← e]; exact hy))] at ho'
        exact ho'

/-- An object of the running call turns: it is written, or it grows. -/
theorem St.reobj (h : St w0 A0 A ρ s a w) {d : Nat} {ro ro' : RO} {ob' : Obj} (hρ : ρ d = some ro) (hle : ro.le ro')
    (hbl : Below w0.heap.size w w') (hsame : ∀ k, k < w.heap.size → ro.blk? ≠ some k → w'.heap[k]? = w.heap[k]?) (hnA : ∀ b, ro.blk? = some b → ¬ A b)
    (hblk : ∀ b, ro'.blk? = some b → b < w'.heap.size ∧ (ro.blk? = some b ∨ w.heap.size ≤ b)) (hok : ObjOk (ρ.set d ro') A w0.heap.size w' ob' ro') :
    St w0 A0 A (ρ.set d ro') (s.upd d (some ob')) a w' := by
  have hlater : ∀ y o', ρ.set d ro' y = some o' → ∃ o, ρ y = some o ∧ o.le o' := fun y o' ho' => by
    by_cases hy : y = d
    · subst hy; rw [Rho.set_same] at ho'; cases ho'; exact ⟨ro, hρ, hle⟩
    · rw [Rho.set_other ρ ro' hy] at ho'; exact ⟨o', ho', RO.le_refl o'⟩
  have hAw : ∀ b, A b → w'.heap[b]? = w.heap[b]? := fun b hb => hsame b (h.bound b hb) (fun e => hnA b e hb)
  refine ⟨h.defers, h.len, fun i => (h.tmps i).later (fun _ h => h) hAw (fun y _ => hlater y), h.below.trans hbl, fun b hb => Nat.lt_of_lt_of_le (h.bound b hb) hbl.size, h.orig, h.keep, fun x o b ho hbo => ?_, fun x x' o o' b ho ho' hbo hbo' => ?_, fun x => ?_⟩
  · by_cases hx : x = d
    · subst hx; rw [Rho.set_same] at ho; cases ho; exact (hblk b hbo).1
    · rw [Rho.set_other ρ ro' hx] at ho; exact Nat.lt_of_lt_of_le (h.rbound x o b ho hbo) hbl.size
  · by_cases hx : x = d
    · subst hx
      rw [Rho.set_same] at ho; cases ho
      by_cases hx' : x' = x
      · exact hx'.symm
      · rw [Rho.set_other ρ ro' hx'] at ho'
        rcases (hblk b hbo).2 with h1 | h1
        · exact h.inj x x' ro o' b hρ ho' h1 hbo'
        · have := h.rbound x' o' b ho' hbo'; omega
    · rw [Rho.set_other ρ ro' hx] at ho
      by_cases hx' : x' = d
      · subst hx'
        rw [Rho.set_same] at ho'; cases ho'
        rcases (hblk b hbo').2 with h1 | h1
        · exact h.inj x x' o ro b ho hρ hbo h1
        · have := h.rbound x o b ho hbo; omega
      · rw [Rho.set_other ρ ro' hx'] at ho'
        exact h.inj x x' o o' b ho ho' hbo hbo'
  · rw [AState.obj_upd]
    by_cases hx : d = x
    · subst hx
      by_cases hl : d < s.objs.length
      · simp only [hl, and_self, if_true]; exact ⟨ro', Rho.set_same _ _ _, hok⟩
      · have : s.obj d = none := by simp [AState.obj, List.getD_eq_getElem?_getD, List.getElem?_eq_none (Nat.le_of_not_lt hl)]
        simp [hl, this]
    · simp only [hx, false_and, if_false]
      have := h.objs x
      split
      · trivial
      · rename_i ob2 hob2
        simp only [hob2] at this
        obtain ⟨o, ho, hok2⟩ := this
        refine ⟨o, by rw [Rho.set_other ρ ro' (Ne.symm hx)]; exact ho, hok2.later (fun _ h => h) (fun _ _ h => h) hAw (fun b hb => ?_) hbl.size (fun y _ => hlater y)⟩
        exact hsame b (h.rbound x o b ho hb) (fun e => hx (h.inj d x ro o b hρ ho e hb))

/-- An object is written no more. -/
theorem St.freeze (h : St w0 A0 A ρ s a w) {d : Nat} {ro : RO} {ob : Obj} (hρ : ρ d = some ro) (hob : s.obj d = some ob) :
    St w0 A0 (fun b => A b ∨ ro.blk? = some b) ρ (s.upd d (some { ob with wr := false })) a w := by
  have hge : ∀ b, ro.blk? = some b → w0.heap.size ≤ b := fun b hb => by
    have := h.objs d
    simp only [hob] at this
    obtain ⟨o, ho, hok⟩ := this
    rw [hρ] at ho; cases ho
    cases ro with
    | box b' => cases hb; exact hok.2.1
    | fix b' n cap => cases hb; exact hok.2.2.2.1
    | row u n =>
      obtain ⟨_, ⟨vs, h1, _⟩, _⟩ := hok
      rcases h1.2 with ⟨rfl, _⟩ | ⟨g, cap, cur, rfl, h2, _⟩
      · cases hb
      · cases hb; exact h2
  refine ⟨h.defers, h.len, fun i => (h.tmps i).mono (fun _ h => .inl h) (fun _ _ => rfl) (fun _ _ => rfl), h.below, fun b hb => ?_, fun b hb => ?_, fun b hb => .inl (h.keep b hb), h.rbound, h.inj, fun x => ?_⟩
  · rcases hb with hb | hb
    · exact h.bound b hb
    · exact h.rbound d ro b hρ hb
  · rcases hb with hb | hb
    · exact h.orig b hb
    · exact .inr (hge b hb)
  · rw [AState.obj_upd]
    by_cases hx : d = x
    · subst hx
      have hl : d < s.objs.length := by
        rcases Nat.lt_or_ge d s.objs.length with hl | hl
        · exact hl
        · simp [AState.obj, List.getD_eq_getElem?_getD, List.getElem?_eq_none hl] at hob
      simp only [hl, and_self, if_true]
      have := h.objs d
      simp only [hob] at this
      obtain ⟨o, ho, hok⟩ := this
      rw [hρ] at ho; cases ho
      refine ⟨ro, hρ, ?_⟩
      cases ro with
      | box b =>
        obtain ⟨h0, h1, h2, h3, h4, h5⟩ := hok
        refine ⟨h0, h1, h2, fun h => (by cases h), fun _ => .inr rfl, fun i x hx => ?_⟩
        obtain ⟨h6, v, h7, h8, h9⟩ := h5 i x hx
        exact ⟨h6, v, h7, h8, h9.mono (fun _ h => .inl h) (fun _ _ => rfl) (fun _ _ => rfl)⟩
      | fix b n cap =>
        obtain ⟨happ, h0, h00, h1, h2, h3, h4, h5⟩ := hok
        refine ⟨happ, h0, h00, h1, h2, fun h => (by cases h), fun _ => .inr rfl, fun i x hx => ?_⟩
        obtain ⟨h6, v, h7, h8, h9⟩ := h5 i x hx
        exact ⟨h6, v, h7, h8, h9.mono (fun _ h => .inl h) (fun _ _ => rfl) (fun _ _ => rfl)⟩
      | row u n =>
        obtain ⟨h0, ⟨vs, h1, h2⟩, h3⟩ := hok
        refine ⟨h0, ⟨vs, h1, fun i x hx => ?_⟩, fun b hb => ?_⟩
        · obtain ⟨v, h7, h8, h9⟩ := h2 i x hx
          exact ⟨v, h7, h8, h9.mono (fun _ h => .inl h) (fun _ _ => rfl) (fun _ _ => rfl)⟩
        · exact ⟨(h3 b hb).1, fun h => (by cases h), fun _ => .inr hb⟩
    · simp only [hx, false_and, if_false]
      have := h.objs x
      split
      · trivial
      · rename_i ob2 hob2
        simp only [hob2] at this
        obtain ⟨o, ho, hok2⟩ := this
        refine ⟨o, ho, hok2.later (fun _ h => .inl h) (fun b hb hA => ?_) (fun _ _ => rfl) (fun _ _ => rfl) (Nat.le_refl _) (fun y _ o' ho' => ⟨o', ho', RO.le_refl o'⟩)⟩
        rcases hA with hA | hA
        · exact hA
        · exact absurd (h.inj d x ro o b hρ ho hA hb) hx

end
end Go.Proofs.Ytefbgdnobnemkaa.AM
