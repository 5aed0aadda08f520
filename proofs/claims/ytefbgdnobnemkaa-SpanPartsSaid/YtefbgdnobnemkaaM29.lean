/-
  Less told of a state; a row that is nothing yet is a row of the call.
-/
import Derived.Test.YtefbgdnobnemkaaM28
namespace Go.Proofs.Ytefbgdnobnemkaa.AM
open Go Go.RowKit

theorem AVle.rfl' {x y : AV} (h : x = y) : AVle x y := h ▸ AVle.refl x
theorem AVle.junk (x : AV) : AVle x .junk := ⟨fun _ _ _ v _ => .junk v⟩
theorem AVle.nilS : AVle .nilsl (.slS []) := ⟨fun _ _ _ v h => by rw [h.nilsl_inv]; exact .row0 _ rfl⟩
theorem AVle.nilB : AVle .nilsl (.slB []) := ⟨fun _ _ _ v h => by rw [h.nilsl_inv]; exact .row0 _ rfl⟩
theorem AVle.nilG {sz : Nat} (h : 0 < sz) : AVle .nilsl (.slG sz []) := ⟨fun _ _ _ v hv => by rw [hv.nilsl_inv]; exact .row0 _ (by simp [AV.rowlen, h])⟩

inductive AVles : List AV → List AV → Prop
  | nil : AVles [] []
  | cons {x y : AV} {xs ys : List AV} (h : AVle x y) (t : AVles xs ys) : AVles (x :: xs) (y :: ys)

theorem AVles.length {xs ys : List AV} (h : AVles xs ys) : xs.length = ys.length := by
  induction h with
  | nil => rfl
  | cons _ _ ih => simp [ih]

theorem AVles.get {xs ys : List AV} (h : AVles xs ys) : ∀ i, AVle (xs.getD i .junk) (ys.getD i .junk) := by
  induction h with
  | nil => exact fun i => .refl _
  | cons h _ ih =>
    intro i
    cases i with
    | zero => exact h
    | succ i => simpa using ih i

theorem AVles.some {xs ys : List AV} (h : AVles xs ys) : ∀ {i : Nat} {y : AV}, ys[i]? = some y → ∃ x, xs[i]? = some x ∧ AVle x y := by
  induction h with
  | nil => intro i y h; simp at h
  | cons h _ ih =>
    intro i y hy
    cases i with
    | zero => simp at hy; subst hy; exact ⟨_, by simp, h⟩
    | succ i => simpa using ih (by simpa using hy)

theorem AVle.agg {xs ys : List AV} (h : AVles xs ys) : AVle (.agg xs) (.agg ys) := ⟨fun ρ A w v hv => by
  obtain ⟨cs, rfl, hl, h1, h2⟩ := hv.agg_inv
  refine .agg cs ys (by rw [hl, h.length]) (fun i y hy => ?_) (fun i hi => h2 i (by rw [h.length]; exact hi))
  obtain ⟨x, hx, hle⟩ := h.some hy
  exact hle.run _ _ _ _ (h1 i x hx)⟩

theorem AVle.tup {xs ys : List AV} (h : AVles xs ys) : AVle (.tup xs) (.tup ys) := ⟨fun ρ A w v hv => by
  obtain ⟨cs, rfl, hl, h1⟩ := hv.tup_inv
  refine .tup cs ys (by rw [hl, h.length]) (fun i y hy => ?_)
  obtain ⟨x, hx, hle⟩ := h.some hy
  exact hle.run _ _ _ _ (h1 i x hx)⟩

inductive Oles : List (Option Obj) → List (Option Obj) → Prop
  | nil : Oles [] []
  | same {x : Option Obj} {xs ys : List (Option Obj)} (t : Oles xs ys) : Oles (x :: xs) (x :: ys)
  | gone {x : Option Obj} {xs ys : List (Option Obj)} (t : Oles xs ys) : Oles (x :: xs) (none :: ys)

theorem Oles.eq {x y : Option Obj} {xs ys : List (Option Obj)} (h : x = y) (t : Oles xs ys) : Oles (x :: xs) (y :: ys) := h ▸ .same t

theorem Oles.get {xs ys : List (Option Obj)} (h : Oles xs ys) : ∀ (i : Nat), ys.getD i none = none ∨ ys.getD i none = xs.getD i none := by
  induction h with
  | nil => exact fun i => .inl rfl
  | same _ ih =>
    intro i
    cases i with
    | zero => exact .inr rfl
    | succ i => simpa using ih i
  | gone _ ih =>
    intro i
    cases i with
    | zero => exact .inl rfl
    | succ i => simpa using ih i

theorem Weak.of {ts ts' : List AV} {os os' : List (Option Obj)} (ht : AVles ts ts') (ho : Oles os os') : Weak ⟨ts, os⟩ ⟨ts', os'⟩ := ⟨fun w0 A0 a w hs => by
  obtain ⟨A, ρ, hs⟩ := hs
  refine ⟨A, ρ, ⟨hs.defers, by rw [hs.len]; exact ht.length, fun i => (ht.get i).run _ _ _ _ (hs.tmps i), hs.below, hs.bound, hs.orig, hs.keep, hs.rbound, hs.inj, fun d => ?_⟩⟩
  have h1 := hs.objs d
  have : (AState.mk ts' os').obj d = none ∨ (AState.mk ts' os').obj d = (AState.mk ts os).obj d := ho.get d
  rcases this with h2 | h2
  · rw [h2]; trivial
  · rw [h2]; exact h1⟩

theorem Weak.trans {s s' s'' : AState} (h : Weak s s') (h' : Weak s' s'') : Weak s s'' := ⟨fun w0 A0 a w hs => h'.run w0 A0 a w (h.run w0 A0 a w hs)⟩

/-- A row that is nothing yet is a row of the call, d its name. -/
theorem Weak.canon {s s' : AState} (t d : Nat) (e : TypeId) (c : AV) (hc : c.rowlen = some 0) (hcm : ∀ i x, c.cell? i = some x → False) (hn : s.tmps.getD t .junk = .nilsl) (hf : freshB s d = true)
    (hs' : (s.upd d (some ⟨true, true, c, e⟩)).put (some t) (.own d 0) = s') : Weak s s' := ⟨fun w0 A0 a w hs => by
  subst hs'
  obtain ⟨A, ρ, hs⟩ := hs
  have h1 := hs.newobj (d := d) (w' := w) (ro := .row (.slice none 0 0) 0) (ob := ⟨true, true, c, e⟩) (fresh_of hf) (.refl _ _) (fun b hb => by cases hb) ⟨hc, ⟨[], ⟨by simp, .inl ⟨rfl, rfl⟩⟩, fun i x hx => (hcm i x hx).elim⟩, fun b hb => by cases hb⟩
  have h2 := h1.put (some t) (v := .slice none 0 0) (x := .own d 0) (.own d 0 _ rfl fun o u len ho hv => by
    rw [Rho.set_same] at ho; cases ho
    cases hv
    exact ⟨Nat.le_refl _, fun _ => rfl⟩)
  have h3 : a.put (some t) (.slice none 0 0) = a := by
    have := (hn ▸ hs.tmps t : R ρ A w (a.tmps.getD t undef) .nilsl).nilsl_inv
    simp only [Act.put]
    congr 1
    apply Array.ext
    · simp
    · intro i h1 h2
      rw [Array.getElem_setIfInBounds]
      split
      · rename_i e
        subst e
        have h2' : t < a.tmps.size := by simpa using h2
        simp only [Array.getD_eq_getD_getElem?, Array.getElem?_eq_getElem h2', Option.getD_some] at this
        exact this.symm
      · rfl
  rw [h3] at h2
  exact ⟨A, _, h2⟩⟩

/-- A loop whose states are told by a family. -/
theorem Holds.loopF {P : Program} {c : Code} {s : AState} {Q : Exit → AState → Prop} {α : Type} (shape : α → AState) (m : α → Nat) (ok : α → Prop) (x0 : α) (h0 : Weak s (shape x0)) (hok : ok x0)
    (h : ∀ x, ok x → Holds P c (shape x) (thenQ (fun s' => ∃ y, (m y < m x ∧ ok y) ∧ Weak s' (shape y)) Q)) : Holds P (.loop c) s Q :=
  .weak h0 (.loop (fun n s => ∃ x, n = m x ∧ ok x ∧ s = shape x) (fun n s ⟨x, hn, hx, hs⟩ => by
    subst hn hs
    refine ⟨fun w0 A0 a w hsim => Go.wp_mono ((h x hx).run w0 A0 a w hsim) fun e a' w' hq => ?_⟩
    obtain ⟨s', hq, hs'⟩ := hq
    refine ⟨s', ?_, hs'⟩
    cases e with
    | normal =>
      obtain ⟨y, ⟨h1, h2⟩, h3⟩ := hq
      exact ⟨m y, shape y, h1, h3, y, rfl, h2, rfl⟩
    | _ => exact hq) ⟨x0, rfl, hok, rfl⟩)

theorem FinC.le {tab : Tab} {rs : List ResultVar} {r r' x : AV} {s : AState} (hx : resC tab s rs = some x) (h : closeV s.obj 5 x = r') (hc : closeP s.obj 5 x) (hr : AVle r' r) : FinC tab rs r s := ⟨x, r', hx, h, hc, hr⟩

end Go.Proofs.Ytefbgdnobnemkaa.AM
