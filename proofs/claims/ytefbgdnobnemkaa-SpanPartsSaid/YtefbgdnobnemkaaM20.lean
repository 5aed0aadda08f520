/-
  Calls of functions that are told by a pure law; one operation of a region, whatever it is.
-/
import Derived.Test.YtefbgdnobnemkaaM19
namespace Go.Proofs.Ytefbgdnobnemkaa.AM
open Go Go.RowKit

/-- No object. -/
def noRho : Rho := fun _ => none

/-- Called with arguments that read so the function returns what reads so; nothing that was there has turned. -/
def Pure (P : Program) (f : FuncId) (args : List AV) (r : AV) : Prop :=
  r.ments = [] ∧ (∃ fn, P.funcs[f]? = some fn ∧ (fn.name == "runtime.NumGoroutine") = false ∧ fn.body.isSome = true) ∧
  ∀ (A : Nat → Prop) (w : World) (vs : Array Value), (∀ b, A b → b < w.heap.size) → vs.size = args.length → (∀ i x, args[i]? = some x → R noRho A w (vs.getD i undef) x) →
    Calls P f vs w fun e w' => ∃ v, e = .returned v ∧ R noRho (fun b => A b ∨ (w.heap.size ≤ b ∧ b < w'.heap.size)) w' v r ∧ Below w.heap.size w w'

/-- The cells of a content, each closed. -/
def AV.mapCells (f : AV → AV) : AV → AV
  | .agg cs => .agg (cs.map f)
  | .slG sz cs => .slG sz (cs.map f)
  | c => c

/-- A value that mentions no object: what the objects hold is written out. -/
def closeV (ob : Nat → Option Obj) : Nat → AV → AV
  | 0, x => x
  | n + 1, .own d _ => match ob d with
    | some o => closeV ob n o.c
    | none => .junk
  | n + 1, .ptr d off => match ob d with
    | some o => closeV ob n (.cptr o.c off)
    | none => .junk
  | n + 1, .cptr c off => .cptr (c.mapCells (closeV ob n)) off
  | n + 1, .agg cs => .agg (cs.map (closeV ob n))
  | n + 1, .slG sz cs => .slG sz (cs.map (closeV ob n))
  | n + 1, .tup cs => .tup (cs.map (closeV ob n))
  | n + 1, .fn f cs => .fn f (cs.map (closeV ob n))
  | _ + 1, x => x

def allP (p : AV → Prop) : List AV → Prop
  | [] => True
  | x :: xs => p x ∧ allP p xs

theorem allP_get {p : AV → Prop} : ∀ {xs : List AV}, allP p xs → ∀ {i : Nat} {x : AV}, xs[i]? = some x → p x
  | [], _, i, x, h => by simp at h
  | y :: ys, h, 0, x, hx => by simp at hx; subst hx; exact h.1
  | y :: ys, h, i + 1, x, hx => allP_get h.2 (by simpa using hx)

def AV.cellList : AV → List AV
  | .agg cs => cs
  | .slG _ cs => cs
  | _ => []

/-- What closing a value asks. -/
def closeP (ob : Nat → Option Obj) : Nat → AV → Prop
  | 0, _ => True
  | n + 1, .own d m => match ob d with
    | some o => o.c.rowlen = some m ∧ closeP ob n o.c
    | none => True
  | n + 1, .ptr d off => match ob d with
    | some o => isBox ob d = true ∧ closeP ob n (.cptr o.c off)
    | none => True
  | n + 1, .cptr c _ => allP (closeP ob n) c.cellList
  | n + 1, .agg cs => allP (closeP ob n) cs
  | n + 1, .slG _ cs => allP (closeP ob n) cs
  | n + 1, .tup cs => allP (closeP ob n) cs
  | n + 1, .fn _ cs => allP (closeP ob n) cs
  | _ + 1, _ => True

/-- The objects that closing a value reads. -/
def visits (ob : Nat → Option Obj) : Nat → AV → List Nat
  | 0, _ => []
  | n + 1, .own d _ => match ob d with
    | some o => d :: visits ob n o.c
    | none => [d]
  | n + 1, .ptr d off => match ob d with
    | some o => d :: visits ob n (.cptr o.c off)
    | none => [d]
  | n + 1, .cptr c _ => c.cellList.flatMap (visits ob n)
  | n + 1, .agg cs => cs.flatMap (visits ob n)
  | n + 1, .slG _ cs => cs.flatMap (visits ob n)
  | n + 1, .tup cs => cs.flatMap (visits ob n)
  | n + 1, .fn _ cs => cs.flatMap (visits ob n)
  | _ + 1, _ => []

theorem closeV_str (ob : Nat → Option Obj) (n : Nat) (l : List UInt8) : closeV ob n (.str l) = .str l := by cases n <;> rfl
theorem closeV_int (ob : Nat → Option Obj) (n : Nat) (k : IntKind) (x : Int) : closeV ob n (.int k x) = .int k x := by cases n <;> rfl

theorem mapCells_cell? {ob : Nat → Option Obj} {n i : Nat} {c x : AV} (h : (c.mapCells (closeV ob n)).cell? i = some x) : ∃ y, c.cell? i = some y ∧ x = closeV ob n y := by
  cases c with
  | slS xs =>
    simp only [AV.mapCells, AV.cell?, Option.map_eq_some_iff] at h
    obtain ⟨a, ha, rfl⟩ := h
    exact ⟨.str a, by simp [AV.cell?, ha], (closeV_str ..).symm⟩
  | slB bs =>
    simp only [AV.mapCells, AV.cell?, Option.map_eq_some_iff] at h
    obtain ⟨a, ha, rfl⟩ := h
    exact ⟨.int .u8 a.toNat, by simp [AV.cell?, ha], (closeV_int ..).symm⟩
  | slG sz cs =>
    simp only [AV.mapCells, AV.cell?, List.getElem?_map, Option.map_eq_some_iff] at h
    obtain ⟨a, ha, rfl⟩ := h
    exact ⟨a, ha, rfl⟩
  | agg cs =>
    simp only [AV.mapCells, AV.cell?, List.getElem?_map, Option.map_eq_some_iff] at h
    obtain ⟨a, ha, rfl⟩ := h
    exact ⟨a, ha, rfl⟩
  | _ => simp [AV.mapCells, AV.cell?] at h

theorem mapCells_rowlen (f : AV → AV) (c : AV) : (c.mapCells f).rowlen = c.rowlen := by
  cases c <;> simp [AV.mapCells, AV.rowlen]

theorem cellList_of {c x : AV} {i : Nat} (h : c.cell? i = some x) : c.cellList[i]? = some x ∨ (∃ l, x = .str l) ∨ ∃ k m, x = .int k m := by
  cases c with
  | slS xs =>
    simp only [AV.cell?, Option.map_eq_some_iff] at h
    obtain ⟨a, _, rfl⟩ := h
    exact .inr (.inl ⟨a, rfl⟩)
  | slB bs =>
    simp only [AV.cell?, Option.map_eq_some_iff] at h
    obtain ⟨a, _, rfl⟩ := h
    exact .inr (.inr ⟨_, _, rfl⟩)
  | slG sz cs => exact .inl h
  | agg cs => exact .inl h
  | _ => simp [AV.cell?] at h

section
variable {P : Program} {tab : Tab} {w0 : World} {A0 A A' : Nat → Prop} {ρ : Rho} {s : AState} {a : Act} {w : World} {o : Oper}

theorem closeV_row {n : Nat} {c : AV} {m : Nat} (h : c.rowlen = some m) : closeV s.obj (n + 1) c = c.mapCells (closeV s.obj n) := by
  cases c <;> simp [AV.rowlen] at h <;> rfl

theorem close_R (h : St w0 A0 A ρ s a w) (hAA : ∀ b, A b → A' b) : ∀ (n : Nat) {v : Value} {x : AV}, R ρ A' w v x → closeP s.obj n x → (∀ d ∈ visits s.obj n x, ∀ o b, (s.obj d).isSome = true → ρ d = some o → o.blk? = some b → A' b) → R ρ A' w v (closeV s.obj n x)
  | 0, v, x, hv, _, _ => hv
  | n + 1, v, x, hv, hp, hvis => by
    have cells : ∀ {xs : List AV} {y : AV} {i : Nat}, xs[i]? = some y → allP (closeP s.obj n) xs → (∀ d ∈ xs.flatMap (visits s.obj n), ∀ o b, (s.obj d).isSome = true → ρ d = some o → o.blk? = some b → A' b) → ∀ {u : Value}, R ρ A' w u y → R ρ A' w u (closeV s.obj n y) := by
      intro xs y i hy hp hvis u hu
      exact close_R h hAA n hu (allP_get hp hy) (fun d hd => hvis d (List.mem_flatMap.2 ⟨y, List.mem_of_getElem? hy, hd⟩))
    -- a row that nobody writes, its cells closed
    have row : ∀ {c : AV} {m : Nat} {u : Value}, c.rowlen = some m → R ρ A' w u c → allP (closeP s.obj n) c.cellList → (∀ d ∈ c.cellList.flatMap (visits s.obj n), ∀ o b, (s.obj d).isSome = true → ρ d = some o → o.blk? = some b → A' b) → R ρ A' w u (c.mapCells (closeV s.obj n)) := by
      intro c m u hm hu hp hvis
      rcases hu.row_inv hm with ⟨rfl, rfl⟩ | ⟨b, off, cap, vs, rfl, hA, hcap, h1, h2, h3⟩
      · exact .row0 _ (by rw [mapCells_rowlen, hm])
      · refine .row b off m cap _ vs (by rw [mapCells_rowlen, hm]) hA hcap (fun i x hx => ?_) (fun i x hx => ?_) (fun i x hx => ?_)
        · obtain ⟨y, hy, _⟩ := mapCells_cell? hx; exact h1 i y hy
        · obtain ⟨y, hy, rfl⟩ := mapCells_cell? hx
          rcases cellList_of hy with hl | ⟨l, rfl⟩ | ⟨k, q, rfl⟩
          · exact cells hl hp hvis (h2 i y hy)
          · rw [closeV_str]; exact h2 i _ hy
          · rw [closeV_int]; exact h2 i _ hy
        · obtain ⟨y, hy, _⟩ := mapCells_cell? hx; exact h3 i y hy
    cases x with
    | own d m =>
      simp only [closeV, closeP, visits] at hp hvis ⊢
      cases hob : s.obj d with
      | none => exact .junk _
      | some ob =>
        rw [hob] at hp hvis
        simp only at hp hvis ⊢
        obtain ⟨ro, u, hro, hok, hval, hcase⟩ := h.row hob hp.1
        have hvu := hv.own_inv hro hval rfl
        have hR : R ρ A' w v ob.c := by
          rw [hvu]
          rcases hcase with ⟨rfl, rfl⟩ | ⟨g, cap, rfl, hcap, hb, hcells⟩
          · exact .row0 _ hp.1
          · refine .row g 0 m cap _ (fun i => (w.cell? ⟨g, i, none⟩).getD undef) hp.1 (hvis d (by simp) ro g (by simp [hob]) hro hb) hcap (fun i y hy => ?_) (fun i y hy => ?_) (fun i y hy => ?_)
            · obtain ⟨_, v, hv, _⟩ := hcells i y hy; rw [Nat.zero_add, hv]; rfl
            · obtain ⟨_, v, hv, _, hR⟩ := hcells i y hy; rw [hv]; exact hR.mono hAA (fun _ _ => rfl) (fun _ _ => rfl)
            · obtain ⟨_, v, hv, h1, _⟩ := hcells i y hy; rw [hv]; exact h1
        exact close_R h hAA n hR hp.2 (fun d' hd' => hvis d' (by simp [hd']))
    | ptr d off =>
      simp only [closeV, closeP, visits] at hp hvis ⊢
      cases hob : s.obj d with
      | none => exact .junk _
      | some ob =>
        rw [hob] at hp hvis
        simp only at hp hvis ⊢
        obtain ⟨b, ob', cs, hob', hcs, hro, hok⟩ := h.box hp.1
        rw [hob] at hob'; cases hob'
        have hvu := hv.ptr_inv hro
        have hR : R ρ A' w v (.cptr ob.c off) := by
          rw [hvu]
          have h0 : R ρ A' w (.pointer (some ⟨b, 0 + off, none⟩)) (.cptr ob.c off) := ?_
          · rwa [Nat.zero_add] at h0
          refine .cptr b 0 off _ (fun i => (w.cell? ⟨b, i, none⟩).getD undef) (hvis d (by simp) _ b (by simp [hob]) hro rfl) (fun i y hy => ?_) (fun i y hy => ?_) (fun i y hy => ?_)
          · obtain ⟨_, v, hv, _⟩ := hok.2.2.2.2.2 i y hy; rw [Nat.zero_add, hv]; rfl
          · obtain ⟨_, v, hv, _, hR⟩ := hok.2.2.2.2.2 i y hy; rw [hv]; exact hR.mono hAA (fun _ _ => rfl) (fun _ _ => rfl)
          · obtain ⟨_, v, hv, h1, _⟩ := hok.2.2.2.2.2 i y hy; rw [hv]; exact h1
        have := close_R h hAA n hR hp.2 (fun d' hd' => hvis d' (by simp [hd']))
        simpa using this
    | cptr c off =>
      simp only [closeV, closeP, visits] at hp hvis ⊢
      obtain ⟨b, o0, vs, rfl, hA, h1, h2, h3⟩ := hv.cptr_inv
      refine .cptr b o0 off _ vs hA (fun i x hx => ?_) (fun i x hx => ?_) (fun i x hx => ?_)
      · obtain ⟨y, hy, _⟩ := mapCells_cell? hx; exact h1 i y hy
      · obtain ⟨y, hy, rfl⟩ := mapCells_cell? hx
        rcases cellList_of hy with hl | ⟨l, rfl⟩ | ⟨k, q, rfl⟩
        · exact cells hl hp hvis (h2 i y hy)
        · rw [closeV_str]; exact h2 i _ hy
        · rw [closeV_int]; exact h2 i _ hy
      · obtain ⟨y, hy, _⟩ := mapCells_cell? hx; exact h3 i y hy
    | agg cs =>
      simp only [closeV, closeP, visits] at hp hvis ⊢
      obtain ⟨vs, rfl, hl, h1, h2⟩ := hv.agg_inv
      refine .agg vs _ (by simpa using hl) (fun i x hx => ?_) (fun i hi => h2 i (by simpa using hi))
      rw [List.getElem?_map, Option.map_eq_some_iff] at hx
      obtain ⟨y, hy, rfl⟩ := hx
      exact cells hy hp hvis (h1 i y hy)
    | tup cs =>
      simp only [closeV, closeP, visits] at hp hvis ⊢
      obtain ⟨vs, rfl, hl, h1⟩ := hv.tup_inv
      refine .tup vs _ (by simpa using hl) (fun i x hx => ?_)
      rw [List.getElem?_map, Option.map_eq_some_iff] at hx
      obtain ⟨y, hy, rfl⟩ := hx
      exact cells hy hp hvis (h1 i y hy)
    | fn f cs =>
      simp only [closeV, closeP, visits] at hp hvis ⊢
      obtain ⟨vs, rfl, hl, h1⟩ := hv.fn_inv
      refine .fn f vs _ (by simpa using hl) (fun i x hx => ?_)
      rw [List.getElem?_map, Option.map_eq_some_iff] at hx
      obtain ⟨y, hy, rfl⟩ := hx
      exact cells hy hp hvis (h1 i y hy)
    | slG sz cs =>
      simp only [closeV, closeP, visits] at hp hvis ⊢
      cases hr : (AV.slG sz cs).rowlen with
      | some m => exact row hr hv hp hvis
      | none =>
        exfalso
        cases hv <;> simp_all
    | junk => exact hv
    | int k q => exact hv
    | bool b => exact hv
    | str l => exact hv
    | nilsl => exact hv
    | nilptr => exact hv
    | slS xs => exact hv
    | slB xs => exact hv
    | eptr d m off => exact hv

end
end Go.Proofs.Ytefbgdnobnemkaa.AM
