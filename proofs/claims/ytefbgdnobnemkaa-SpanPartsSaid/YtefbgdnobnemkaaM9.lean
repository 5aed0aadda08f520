/-
  Each operation of the model does what the abstract machine says: elements, parts, lengths.
-/
import Derived.Test.YtefbgdnobnemkaaM8
namespace Go.Proofs.Ytefbgdnobnemkaa.AM
open Go Go.RowKit

theorem mulSz_eq (i sz : Nat) : mulSz i sz = i * sz := by
  unfold mulSz; split <;> simp

section
variable {P : Program} {tab : Tab} {w0 : World} {A0 A : Nat → Prop} {ρ : Rho} {s : AState} {a : Act} {w : World} {o : Oper}

theorem und_slice {t e : TypeId} {ti : TI} (h : TIok P t ti) (hk : ti.k = .slice e) : P.underlying t = some (.slice e) := by
  obtain ⟨d, hd, hh⟩ := h.und
  unfold TKok at hh; rw [hk] at hh; rw [hd, hh]
theorem und_array {t e : TypeId} {n : Nat} {ti : TI} (h : TIok P t ti) (hk : ti.k = .array n e) : P.underlying t = some (.array n e) := by
  obtain ⟨d, hd, hh⟩ := h.und
  unfold TKok at hh; rw [hk] at hh; rw [hd, hh]
theorem und_str {t : TypeId} {ti : TI} (h : TIok P t ti) (hk : ti.k = .str) : P.underlying t = some .string := by
  obtain ⟨d, hd, hh⟩ := h.und
  unfold TKok at hh; rw [hk] at hh; rw [hd, hh]
theorem und_int {t : TypeId} {ti : TI} {k : IntKind} (h : TIok P t ti) (hk : ti.k = .int k) : P.underlying t = some (.int k) := by
  obtain ⟨d, hd, hh⟩ := h.und
  unfold TKok at hh; rw [hk] at hh; rw [hd, hh]
theorem und_bool {t : TypeId} {ti : TI} (h : TIok P t ti) (hk : ti.k = .bool) : P.underlying t = some .bool := by
  obtain ⟨d, hd, hh⟩ := h.und
  unfold TKok at hh; rw [hk] at hh; rw [hd, hh]

theorem run_indexAt_sl {t e : TypeId} {esz b off len cap : Nat} {k : IntKind} {i : Int} (hu : P.underlying t = some (.slice e)) (hs : ∀ w, (sizeOf e).run P w = .ok esz w) (h0 : 0 ≤ i) (h1 : i < (len : Int)) :
    (Instr.indexAt t (.slice (some ⟨b, off, none⟩) len cap) (.int k i)).run P w = .ok (.pointer (some ⟨b, off + i.toNat * esz, none⟩)) w := by
  simp [Instr.indexAt, run_underlying hu, asIntOf, h0, h1, hs, Addr.add_lit]

theorem ok_indexAddr_slice {t e : TypeId} {x i : Operand} {ti ei : TI} {pre : Prop} {v : AV} {u : List (Nat × Option Obj)} {n : List Nat} (hT : TabOk P tab) (ho : o.op = .indexAddr t x i) (h : St w0 A0 A ρ s a w)
    (h1 : tab t = some ti) (hk : ti.k = .slice e) (h2 : tab e = some ei)
    (hx : aindexAddr ti ei.size (s.ev x) (s.ev i) s.obj = .val pre v u n) (hp : pre) : Goes P o a w (Sim w0 A0 (s.app o.dst v u)) := by
  have hu := und_slice (hT t ti h1) hk
  have hs := fun w => run_sizeOf' (hT e ei h2) w
  unfold aindexAddr at hx
  split at hx
  · rename_i k q hq
    have r2 := (hq ▸ h.ev i : R ρ A w (a.eval i) _).int_inv
    rw [hk] at hx
    simp only at hx
    split at hx
    · rename_i d m _ hm
      split at hx
      · rename_i ob hob
        split at hx
        · rename_i hesz
          have hesz : ob.c.esz = ei.size := by simpa using hesz
          cases hx
          obtain ⟨hp1, hp2, hp3⟩ := hp
          obtain ⟨ro, uv, hro, hok, hval, hh⟩ := h.row hob hp1
          rcases hh with ⟨_, rfl⟩ | ⟨g, cap, rfl, hc, hb, hcells⟩
          · omega
          · have r1 := (hm ▸ h.ev x : R ρ A w (a.eval x) _).own_inv hro hval rfl
            refine goes_value h (val := .pointer (some ⟨g, q.toNat * ei.size, none⟩)) ?_ ?_
            · simp only [execOp, ho, r1, r2, Sem.run_bind, run_indexAt_sl hu hs hp2 hp3, Result.andThen_ok, Sem.run_pure, Nat.zero_add]
            · rw [mulSz_eq]
              refine .eptr _ _ _ _ rfl fun o' u' len' ho' hv' => ?_
              rw [hro] at ho'; cases ho'
              rw [hval] at hv'; cases hv'
              exact ⟨Nat.le_refl _, fun _ g' cap' e => by cases e; rfl⟩
        · cases hx
      · cases hx
    · rename_i xs _ hm
      split at hx
      · rename_i he
        cases hx
        rcases R.row_inv (c := .slS xs) rfl (hm ▸ h.ev x : R ρ A w (a.eval x) _) with ⟨_, h0⟩ | ⟨b, off, cap, vs, r1, hA, hc, hc1, hc2, hc3⟩
        · omega
        · refine goes_value h (val := .pointer (some ⟨b, off + q.toNat, none⟩)) ?_ (.cptr b off q.toNat _ vs hA hc1 hc2 hc3)
          have := run_indexAt_sl (w := w) (b := b) (off := off) (cap := cap) (k := k) hu hs hp.1 hp.2
          rw [he, Nat.mul_one] at this
          simp only [execOp, ho, r1, r2, Sem.run_bind, this, Result.andThen_ok, Sem.run_pure]
      · cases hx
    · rename_i xs _ hm
      split at hx
      · rename_i he
        cases hx
        rcases R.row_inv (c := .slB xs) rfl (hm ▸ h.ev x : R ρ A w (a.eval x) _) with ⟨_, h0⟩ | ⟨b, off, cap, vs, r1, hA, hc, hc1, hc2, hc3⟩
        · omega
        · refine goes_value h (val := .pointer (some ⟨b, off + q.toNat, none⟩)) ?_ (.cptr b off q.toNat _ vs hA hc1 hc2 hc3)
          have := run_indexAt_sl (w := w) (b := b) (off := off) (cap := cap) (k := k) hu hs hp.1 hp.2
          rw [he, Nat.mul_one] at this
          simp only [execOp, ho, r1, r2, Sem.run_bind, this, Result.andThen_ok, Sem.run_pure]
      · cases hx
    · rename_i sz cs _ hm
      split at hx
      · rename_i he
        have he : sz = ei.size := by simpa using he
        cases hx
        obtain ⟨hp1, hp2, hp3⟩ := hp
        rcases R.row_inv hp1 (hm ▸ h.ev x : R ρ A w (a.eval x) _) with ⟨_, h0⟩ | ⟨b, off, cap, vs, r1, hA, hc, hc1, hc2, hc3⟩
        · omega
        · refine goes_value h (val := .pointer (some ⟨b, off + q.toNat * ei.size, none⟩)) ?_ ?_
          · simp only [execOp, ho, r1, r2, Sem.run_bind, run_indexAt_sl hu hs hp2 hp3, Result.andThen_ok, Sem.run_pure]
          · rw [mulSz_eq, he]
            exact .cptr b off _ _ vs hA (he ▸ hc1) (he ▸ hc2) (he ▸ hc3)
      · cases hx
    · rename_i hk2 _
      cases hk2
    · cases hx
  · cases hx

theorem ok_indexAddr_array {t e : TypeId} {len : Nat} {x i : Operand} {ti ei : TI} {pre : Prop} {v : AV} {u : List (Nat × Option Obj)} {n : List Nat} (hT : TabOk P tab) (ho : o.op = .indexAddr t x i) (h : St w0 A0 A ρ s a w)
    (h1 : tab t = some ti) (hk : ti.k = .array len e) (h2 : tab e = some ei)
    (hx : aindexAddr ti ei.size (s.ev x) (s.ev i) s.obj = .val pre v u n) (hp : pre) : Goes P o a w (Sim w0 A0 (s.app o.dst v u)) := by
  have hu := und_array (hT t ti h1) hk
  have hs := fun w => run_sizeOf' (hT e ei h2) w
  unfold aindexAddr at hx
  split at hx
  · rename_i k q hq
    have r2 := (hq ▸ h.ev i : R ρ A w (a.eval i) _).int_inv
    rw [hk] at hx
    simp only at hx
    split at hx
    · rename_i hk2 _; cases hk2
    · rename_i hk2 _; cases hk2
    · rename_i hk2 _; cases hk2
    · rename_i hk2 _; cases hk2
    · rename_i d off hk2 hm
      cases hk2
      split at hx
      · rename_i hb
        cases hx
        obtain ⟨b, ob, cs, hob, hcs, hro, hok⟩ := h.box hb
        have r1 := R.ptr_inv (hm ▸ h.ev x : R ρ A w (a.eval x) _) hro
        refine goes_value h (val := .pointer (some ⟨b, off + q.toNat * ei.size, none⟩)) ?_ ?_
        · simp [execOp, ho, r1, r2, Instr.indexAt, run_underlying hu, Instr.sureAddr, asIntOf, hp.1, hp.2, hs, Addr.add_lit]
        · rw [mulSz_eq]
          exact .ptr _ _ _ rfl fun b' hb' => by rw [hro] at hb'; cases hb'; rfl
      · cases hx
    · cases hx
  · cases hx

theorem ok_index_str {t : TypeId} {x i : Operand} {ti : TI} {esz : Nat} {pre : Prop} {v : AV} {u : List (Nat × Option Obj)} {n : List Nat} (hT : TabOk P tab) (ho : o.op = .index t x i) (h : St w0 A0 A ρ s a w)
    (h1 : tab t = some ti) (hk : ti.k = .str) (hx : aindex ti esz (s.ev x) (s.ev i) = .val pre v u n) (hp : pre) : Goes P o a w (Sim w0 A0 (s.app o.dst v u)) := by
  have hu := und_str (hT t ti h1) hk
  unfold aindex at hx
  split at hx
  · rename_i k q hq
    have r2 := (hq ▸ h.ev i : R ρ A w (a.eval i) _).int_inv
    rw [hk] at hx
    split at hx
    · rename_i l _ hm
      cases hx
      have r1 := (hm ▸ h.ev x : R ρ A w (a.eval x) _).str_inv
      refine goes_value h (val := .int .u8 ((l.getD q.toNat 0).toNat : Int)) ?_ (.int _ _)
      have hlt : q.toNat < l.length := by omega
      have hb : (ByteArray.mk l.toArray)[q.toNat]? = some (l[q.toNat]) := by
        have h2 : q.toNat < (ByteArray.mk l.toArray).size := by simpa [ByteArray.size] using hlt
        rw [getElem?_pos (ByteArray.mk l.toArray) q.toNat h2]
        rfl
      simp [execOp, ho, r1, r2, Instr.index, run_underlying hu, asIntOf, hp.1, hb, List.getD_eq_getElem?_getD, List.getElem?_eq_getElem hlt]
    · rename_i hk2 _; cases hk2
    · cases hx
  · cases hx

theorem ok_index_array {t e : TypeId} {len : Nat} {x i : Operand} {ti ei : TI} {pre : Prop} {v : AV} {u : List (Nat × Option Obj)} {n : List Nat} (hT : TabOk P tab) (ho : o.op = .index t x i) (h : St w0 A0 A ρ s a w)
    (h1 : tab t = some ti) (hk : ti.k = .array len e) (h2 : tab e = some ei) (hna : ei.isAgg = false) (hx : aindex ti ei.size (s.ev x) (s.ev i) = .val pre v u n) (hp : pre) : Goes P o a w (Sim w0 A0 (s.app o.dst v u)) := by
  have hu := und_array (hT t ti h1) hk
  have hs := fun w => run_sizeOf' (hT e ei h2) w
  have hg := fun w => run_isAgg' (hT e ei h2) w
  rw [hna] at hg
  unfold aindex at hx
  split at hx
  · rename_i k q hq
    have r2 := (hq ▸ h.ev i : R ρ A w (a.eval i) _).int_inv
    rw [hk] at hx
    split at hx
    · rename_i hk2 _; cases hk2
    · rename_i cs hk2 hm
      cases hk2
      split at hx
      · rename_i he
        rw [he] at hs
        cases hx
        obtain ⟨vs, r1, hl, hr, _⟩ := (hm ▸ h.ev x : R ρ A w (a.eval x) _).agg_inv
        have hlt : q.toNat < cs.length := by omega
        have hlt' : q.toNat < vs.size := by omega
        refine goes_value h (val := vs.getD q.toNat undef) ?_ ?_
        · simp [execOp, ho, r1, r2, Instr.index, run_underlying hu, asIntOf, hp.1, hp.2.1, part, hg, hs, hlt']
        · have := hr q.toNat _ (List.getElem?_eq_getElem hlt)
          simpa [List.getD_eq_getElem?_getD, List.getElem?_eq_getElem hlt] using this
      · cases hx
    · cases hx
  · cases hx

end
end Go.Proofs.Ytefbgdnobnemkaa.AM
