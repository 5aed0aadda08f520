/-
  Each operation of the model does what the abstract machine says: slices, lengths, loads, conversions.
-/
import Derived.Test.YtefbgdnobnemkaaM9
namespace Go.Proofs.Ytefbgdnobnemkaa.AM
open Go Go.RowKit

section
variable {P : Program} {tab : Tab} {w0 : World} {A0 A : Nat → Prop} {ρ : Rho} {s : AState} {a : Act} {w : World} {o : Oper}

/-- A bound as the model has it. -/
def BndOf (l : Option Int) (v : Option Value) : Prop := (l = none ∧ v = none) ∨ ∃ k n, l = some n ∧ v = some (.int k n)

theorem bnd_ok (h : St w0 A0 A ρ s a w) {x : Option Operand} {l : Option Int} (hb : bnd (x.map s.ev) = some l) : BndOf l (x.map a.eval) := by
  cases x with
  | none => simp [bnd] at hb; exact .inl ⟨hb.symm, rfl⟩
  | some x =>
    simp only [Option.map_some] at hb ⊢
    unfold bnd at hb
    split at hb
    · rename_i e; cases e
    · rename_i k n e
      cases e' : s.ev x <;> rw [e'] at e <;> simp at e
      obtain ⟨rfl, rfl⟩ := e
      cases hb
      exact .inr ⟨_, _, rfl, by rw [(e' ▸ h.ev x : R ρ A w (a.eval x) _).int_inv]⟩
    · cases hb

def loN (l : Option Int) : Nat := match l with | none => 0 | some n => n.toNat
def hiN (h : Option Int) (len : Nat) : Nat := match h with | none => len | some n => n.toNat

theorem run_bounds {isS : Bool} {len cap : Nat} {l h : Option Int} {vl vh : Option Value} (hl : BndOf l vl) (hh : BndOf h vh) (hp : cutPre len l h) (hc : len ≤ cap) :
    (Instr.sliceBounds isS len cap vl vh none).run P w = .ok (loN l, hiN h len, cap) w ∧ loN l ≤ hiN h len ∧ hiN h len ≤ len := by
  rcases hl with ⟨rfl, rfl⟩ | ⟨k, n, rfl, rfl⟩ <;> rcases hh with ⟨rfl, rfl⟩ | ⟨k', n', rfl, rfl⟩ <;> simp only [cutPre] at hp
  · exact ⟨by simp [Instr.sliceBounds, loN, hiN], by simp [loN], by simp [hiN]⟩
  · refine ⟨?_, by simp [loN], by simp [hiN]; omega⟩
    have h1 : 0 ≤ n' ∧ n' ≤ (cap : Int) := by omega
    simp [Instr.sliceBounds, Instr.sliceBound, asIntOf, loN, hiN, h1]
  · refine ⟨?_, by simp [loN, hiN]; omega, by simp [hiN]⟩
    simp [Instr.sliceBounds, Instr.sliceBound, asIntOf, loN, hiN, hp]
  · refine ⟨?_, by simp [loN, hiN]; omega, by simp [hiN]; omega⟩
    have h1 : 0 ≤ n' ∧ n' ≤ (cap : Int) := by omega
    have h2 : 0 ≤ n ∧ n ≤ max n' 0 := by omega
    simp [Instr.sliceBounds, Instr.sliceBound, asIntOf, loN, hiN, h1, h2]

theorem cutL_eq {α : Type} (xs : List α) {l h : Option Int} (hp : cutPre xs.length l h) : cutL xs (toN l) (toN h) = (xs.take (hiN h xs.length)).drop (loN l) := by
  cases l <;> cases h <;> simp [cutL, toN, hiN, loN]

theorem run_slice_str {t : TypeId} {xs : List UInt8} {l h : Option Int} {vl vh : Option Value} (hu : P.underlying t = some .string) (hl : BndOf l vl) (hh : BndOf h vh) (hp : cutPre xs.length l h) :
    (Instr.sliceAt t (.string ⟨xs.toArray⟩) vl vh none).run P w = .ok (.string ⟨(cutL xs (toN l) (toN h)).toArray⟩) w := by
  obtain ⟨hr, h1, h2⟩ := run_bounds (P := P) (w := w) (isS := false) hl hh hp (Nat.le_refl _)
  have hs : (ByteArray.mk xs.toArray).size = xs.length := by simp [ByteArray.size]
  simp only [Instr.sliceAt, Sem.run_bind, run_underlying hu, Result.andThen_ok, Instr.slice, hs, hr, Option.isSome_none, Bool.false_eq_true, if_false, Sem.run_pure]
  rw [cutL_eq xs hp]
  congr 2
  apply ByteArray.ext
  apply Array.ext'
  simp [List.drop_take]

/-- A part of a row that nobody writes. -/
theorem run_slice_row {t e : TypeId} {esz : Nat} {c c' : AV} {n : Nat} {v : Value} {l h : Option Int} {vl vh : Option Value} (hu : P.underlying t = some (.slice e)) (hs : ∀ w, (sizeOf e).run P w = .ok esz w)
    (hl : BndOf l vl) (hh : BndOf h vh) (hp : cutPre n l h) (hc : c.rowlen = some n) (hc' : c'.rowlen = some (hiN h n - loN l)) (hcell : ∀ i x, c'.cell? i = some x → c.cell? (loN l * esz + i) = some x)
    (hz : hiN h n - loN l = 0 → ∀ i, c'.cell? i = none) (hv : R ρ A w v c) : ∃ v', (Instr.sliceAt t v vl vh none).run P w = .ok v' w ∧ R ρ A w v' c' := by
  rcases hv.row_inv hc with ⟨rfl, rfl⟩ | ⟨b, off, cap, vs, rfl, hA, hcap, h1, h2, h3⟩
  · obtain ⟨hr, h4, h5⟩ := run_bounds (P := P) (w := w) (isS := true) hl hh hp (Nat.le_refl _)
    have e1 : hiN h 0 = 0 := by omega
    have e2 : loN l = 0 := by omega
    refine ⟨.slice none 0 0, ?_, .row0 _ (by rw [hc', e1, e2])⟩
    simp [Instr.sliceAt, run_underlying hu, Instr.slice, hr, hs, e1, e2]
  · obtain ⟨hr, h4, h5⟩ := run_bounds (P := P) (w := w) (isS := true) hl hh hp hcap
    refine ⟨_, by simp [Instr.sliceAt, run_underlying hu, Instr.slice, hr, hs]; rfl, ?_⟩
    by_cases hm : cap = loN l
    · have e : hiN h n - loN l = 0 := by omega
      rw [if_pos hm]
      have hn := hz e
      exact .row b off _ _ c' vs (by rw [hc']) hA (by omega) (fun i x hx => by rw [hn i] at hx; cases hx) (fun i x hx => by rw [hn i] at hx; cases hx) (fun i x hx => by rw [hn i] at hx; cases hx)
    · rw [if_neg hm]
      simp only [Addr.add_lit]
      refine .row b (off + loN l * esz) _ _ c' (fun i => vs (loN l * esz + i)) (by rw [hc']) hA (by omega) (fun i x hx => ?_) (fun i x hx => h2 _ _ (hcell i x hx)) (fun i x hx => h3 _ _ (hcell i x hx))
      rw [Nat.add_assoc]
      exact h1 _ _ (hcell i x hx)

theorem cut_getElem? {α : Type} {xs : List α} {p q i : Nat} {x : α} (h : ((xs.take q).drop p)[i]? = some x) : xs[p + i]? = some x := by
  rw [List.getElem?_drop] at h
  have hlt := (List.getElem?_eq_some_iff.1 h).1
  rw [List.length_take] at hlt
  rwa [List.getElem?_take_of_lt (by omega)] at h

theorem cut_S {xs : List (List UInt8)} {l h : Option Int} (hp : cutPre xs.length l h) : (AV.slS (cutL xs (toN l) (toN h))).rowlen = some (hiN h xs.length - loN l) ∧
    (∀ i x, (AV.slS (cutL xs (toN l) (toN h))).cell? i = some x → (AV.slS xs).cell? (loN l * 1 + i) = some x) ∧ (hiN h xs.length - loN l = 0 → ∀ i, (AV.slS (cutL xs (toN l) (toN h))).cell? i = none) := by
  rw [cutL_eq xs hp]
  have hb : hiN h xs.length ≤ xs.length := by
    cases l <;> cases h <;> simp [hiN, cutPre] at hp ⊢ <;> omega
  refine ⟨by simp [AV.rowlen]; omega, fun i x hx => ?_, fun h0 i => ?_⟩
  · simp only [AV.cell?, Option.map_eq_some_iff] at hx ⊢
    obtain ⟨y, hy, rfl⟩ := hx
    exact ⟨y, by rw [Nat.mul_one]; exact cut_getElem? hy, rfl⟩
  · simp only [AV.cell?, Option.map_eq_none_iff]
    apply List.getElem?_eq_none
    simp; omega

theorem cut_B {xs : List UInt8} {l h : Option Int} (hp : cutPre xs.length l h) : (AV.slB (cutL xs (toN l) (toN h))).rowlen = some (hiN h xs.length - loN l) ∧
    (∀ i x, (AV.slB (cutL xs (toN l) (toN h))).cell? i = some x → (AV.slB xs).cell? (loN l * 1 + i) = some x) ∧ (hiN h xs.length - loN l = 0 → ∀ i, (AV.slB (cutL xs (toN l) (toN h))).cell? i = none) := by
  rw [cutL_eq xs hp]
  have hb : hiN h xs.length ≤ xs.length := by
    cases l <;> cases h <;> simp [hiN, cutPre] at hp ⊢ <;> omega
  refine ⟨by simp [AV.rowlen]; omega, fun i x hx => ?_, fun h0 i => ?_⟩
  · simp only [AV.cell?, Option.map_eq_some_iff] at hx ⊢
    obtain ⟨y, hy, rfl⟩ := hx
    exact ⟨y, by rw [Nat.mul_one]; exact cut_getElem? hy, rfl⟩
  · simp only [AV.cell?, Option.map_eq_none_iff]
    apply List.getElem?_eq_none
    simp; omega

theorem rowlen_G {sz m : Nat} {cs : List AV} (hs : 0 < sz) (h : cs.length = m * sz) : (AV.slG sz cs).rowlen = some m := by
  simp [AV.rowlen, hs, h]

theorem rowlen_G_inv {sz m : Nat} {cs : List AV} (h : (AV.slG sz cs).rowlen = some m) : 0 < sz ∧ cs.length = m * sz := by
  simp only [AV.rowlen] at h
  split at h
  · rename_i hh
    simp only [Option.some.injEq] at h
    exact ⟨hh.1, by rw [← h]; exact hh.2⟩
  · cases h

theorem cut_G {sz : Nat} {cs : List AV} {n : Nat} {l h : Option Int} (hc : (AV.slG sz cs).rowlen = some n) (hp : cutPre n l h) : ((AV.slG sz cs).cut (toN l) (toN h)).rowlen = some (hiN h n - loN l) ∧
    (∀ i x, ((AV.slG sz cs).cut (toN l) (toN h)).cell? i = some x → (AV.slG sz cs).cell? (loN l * sz + i) = some x) ∧ (hiN h n - loN l = 0 → ∀ i, ((AV.slG sz cs).cut (toN l) (toN h)).cell? i = none) := by
  obtain ⟨hs, hlen⟩ := rowlen_G_inv hc
  have hb : hiN h n ≤ n ∧ loN l ≤ hiN h n := by
    cases l <;> cases h <;> simp [hiN, loN, cutPre] at hp ⊢ <;> omega
  have e : (AV.slG sz cs).cut (toN l) (toN h) = .slG sz ((cs.take (hiN h n * sz)).drop (loN l * sz)) := by
    have ht : cs.take (n * sz) = cs := List.take_of_length_le (by omega)
    cases l <;> cases h <;> simp [AV.cut, cutL, toN, hiN, loN, ht]
  rw [e]
  have hle : hiN h n * sz ≤ n * sz := Nat.mul_le_mul_right _ hb.1
  have hlen2 : ((cs.take (hiN h n * sz)).drop (loN l * sz)).length = (hiN h n - loN l) * sz := by
    rw [List.length_drop, List.length_take, hlen, Nat.min_eq_left hle, Nat.sub_mul]
  refine ⟨rowlen_G hs hlen2, fun i x hx => cut_getElem? hx, fun h0 i => ?_⟩
  apply List.getElem?_eq_none
  rw [hlen2, h0]; simp

theorem ok_slice_str {t : TypeId} {x : Operand} {lo hi : Option Operand} {ti : TI} {esz : Nat} {pre : Prop} {v : AV} {u : List (Nat × Option Obj)} {n : List Nat} (hT : TabOk P tab) (ho : o.op = .slice t x lo hi none) (h : St w0 A0 A ρ s a w)
    (h1 : tab t = some ti) (hk : ti.k = .str) (hx : aslice ti esz (s.ev x) (lo.map s.ev) (hi.map s.ev) s.obj = .val pre v u n) (hp : pre) : Goes P o a w (Sim w0 A0 (s.app o.dst v u)) := by
  have hu := und_str (hT t ti h1) hk
  unfold aslice at hx
  split at hx
  · rename_i l h' hl hh
    rw [hk] at hx
    split at hx
    · rename_i xs _ hm
      cases hx
      have r1 := (hm ▸ h.ev x : R ρ A w (a.eval x) _).str_inv
      refine goes_value h ?_ (.str _)
      simp only [execOp, ho, r1, Sem.run_bind, Option.map_none, run_slice_str hu (bnd_ok h hl) (bnd_ok h hh) hp, Result.andThen_ok, Sem.run_pure]
    · rename_i hk2 _; cases hk2
    · rename_i hk2 _; cases hk2
    · rename_i hk2 _; cases hk2
    · rename_i hk2 _; cases hk2
    · rename_i hk2 _; cases hk2
    · cases hx
  · cases hx

theorem ok_slice_row {t e : TypeId} {x : Operand} {lo hi : Option Operand} {ti ei : TI} {pre : Prop} {v : AV} {u : List (Nat × Option Obj)} {n : List Nat} (hT : TabOk P tab) (ho : o.op = .slice t x lo hi none) (h : St w0 A0 A ρ s a w)
    (h1 : tab t = some ti) (hk : ti.k = .slice e) (h2 : tab e = some ei) (hx : aslice ti ei.size (s.ev x) (lo.map s.ev) (hi.map s.ev) s.obj = .val pre v u n) (hp : pre) : Goes P o a w (Sim w0 A0 (s.app o.dst v u)) := by
  have hu := und_slice (hT t ti h1) hk
  have hs := fun w => run_sizeOf' (hT e ei h2) w
  unfold aslice at hx
  split at hx
  · rename_i l h' hl hh
    have hl := bnd_ok h hl
    have hh := bnd_ok h hh
    rw [hk] at hx
    split at hx
    · rename_i hk2 _; cases hk2
    · rename_i xs _ hm
      split at hx
      · rename_i he
        cases hx
        rw [he] at hs
        obtain ⟨c1, c2, c3⟩ := cut_S hp
        obtain ⟨v', hr, hR⟩ := run_slice_row hu hs hl hh hp (c := .slS xs) rfl c1 c2 c3 (hm ▸ h.ev x : R ρ A w (a.eval x) _)
        refine goes_value h (val := v') ?_ hR
        simp only [execOp, ho, Sem.run_bind, Option.map_none, hr, Result.andThen_ok, Sem.run_pure]
      · cases hx
    · rename_i xs _ hm
      split at hx
      · rename_i he
        cases hx
        rw [he] at hs
        obtain ⟨c1, c2, c3⟩ := cut_B hp
        obtain ⟨v', hr, hR⟩ := run_slice_row hu hs hl hh hp (c := .slB xs) rfl c1 c2 c3 (hm ▸ h.ev x : R ρ A w (a.eval x) _)
        refine goes_value h (val := v') ?_ hR
        simp only [execOp, ho, Sem.run_bind, Option.map_none, hr, Result.andThen_ok, Sem.run_pure]
      · cases hx
    · rename_i sz cs _ hm
      split at hx
      · rename_i he
        have he : sz = ei.size := by simpa using he
        cases hx
        obtain ⟨c1, c2, c3⟩ := cut_G hp.1 hp.2
        obtain ⟨v', hr, hR⟩ := run_slice_row hu hs hl hh hp.2 hp.1 c1 (he ▸ c2) c3 (hm ▸ h.ev x : R ρ A w (a.eval x) _)
        refine goes_value h (val := v') ?_ hR
        simp only [execOp, ho, Sem.run_bind, Option.map_none, hr, Result.andThen_ok, Sem.run_pure]
      · cases hx
    · rename_i _ hm
      cases hx
      have r1 := (hm ▸ h.ev x : R ρ A w (a.eval x) _).nilsl_inv
      obtain ⟨hr, h4, h5⟩ := run_bounds (P := P) (w := w) (isS := true) hl hh hp (Nat.le_refl _)
      have e1 : hiN h' 0 = 0 := by omega
      have e2 : loN l = 0 := by omega
      refine goes_value h (val := .slice none 0 0) ?_ .nilsl
      simp [execOp, ho, r1, Instr.sliceAt, run_underlying hu, Instr.slice, hr, hs, e1, e2]
    · rename_i d m _ hm
      split at hx
      · rename_i ob hob
        split at hx
        · rename_i xs hxs
          split at hx
          · rename_i he
            cases hx
            rw [he] at hs
            obtain ⟨rfl, hp2⟩ := hp
            obtain ⟨c1, c2, c3⟩ := cut_S hp2
            have hrl : ob.c.rowlen = some xs.length := by rw [hxs]; rfl
            obtain ⟨ro, uv, hro, hok, hval, hcase⟩ := h.row hob hrl
            have r1 := (hm ▸ h.ev x : R ρ A w (a.eval x) _).own_inv hro hval rfl
            have h' := h.freeze hro hob
            have hRow : R ρ (fun b => A b ∨ ro.blk? = some b) w uv (.slS xs) := by
              rcases hcase with ⟨rfl, h0⟩ | ⟨g, cap, rfl, hc, hb, hcells⟩
              · exact .row0 _ (by simp [AV.rowlen, h0])
              · rw [hxs] at hcells
                refine .row g 0 xs.length cap _ (fun i => (w.cell? ⟨g, i, none⟩).getD undef) rfl (.inr hb) hc (fun i y hy => ?_) (fun i y hy => ?_) (fun i y hy => ?_)
                · obtain ⟨_, v, hv, _⟩ := hcells i y hy; rw [Nat.zero_add, hv]; rfl
                · obtain ⟨_, v, hv, _, hR⟩ := hcells i y hy; rw [hv]; exact hR.mono (fun _ h => .inl h) (fun _ _ => rfl) (fun _ _ => rfl)
                · obtain ⟨_, v, hv, h1, _⟩ := hcells i y hy; rw [hv]; exact h1
            obtain ⟨v', hr, hR⟩ := run_slice_row hu hs hl hh hp2 (c := .slS xs) rfl c1 c2 c3 hRow
            refine .inl ⟨v', w, ?_, _, ρ, h'.put o.dst hR⟩
            simp only [execOp, ho, r1, Sem.run_bind, Option.map_none, hr, Result.andThen_ok, Sem.run_pure]
          · cases hx
        · cases hx
      · cases hx
    · cases hx
  · cases hx

end
end Go.Proofs.Ytefbgdnobnemkaa.AM
