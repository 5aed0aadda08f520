/-
  Each operation of the model does what the abstract machine says: addresses, parts, loads.
-/
import Derived.Test.YtefbgdnobnemkaaM7
namespace Go.Proofs.Ytefbgdnobnemkaa.AM
open Go Go.RowKit

section
variable {P : Program} {tab : Tab} {w0 : World} {A0 A : Nat → Prop} {ρ : Rho} {s : AState} {a : Act} {w : World} {o : Oper}

theorem run_sizeOf' {t : TypeId} {ti : TI} (h : TIok P t ti) (w : World) : (sizeOf t).run P w = .ok ti.size w := by
  obtain ⟨i, z, hi, hs, _⟩ := h.info
  simp [sizeOf, typeInfo, hi, hs]

theorem run_isAgg' {t : TypeId} {ti : TI} (h : TIok P t ti) (w : World) : (isAgg t).run P w = .ok ti.isAgg w := by
  obtain ⟨d, hd, hk⟩ := h.und
  unfold TKok at hk
  unfold TI.isAgg
  split at hk <;> simp_all
  all_goals first
    | (simp [isAgg, run_underlying hd]; done)
    | (obtain ⟨fs, rfl, _, _⟩ := hk; simp [isAgg, run_underlying hd]; done)
    | (obtain ⟨fs, rfl⟩ := hk; simp [isAgg, run_underlying hd]; done)
    | (obtain ⟨p, r, h | h⟩ := hk <;> subst h <;> simp [isAgg, run_underlying hd]; done)

/-- What the running call knows of an object. -/
theorem St.live (h : St w0 A0 A ρ s a w) {d : Nat} {ob : Obj} (hd : s.obj d = some ob) : ∃ ro, ρ d = some ro ∧ ObjOk ρ A w0.heap.size w ob ro := by
  have := h.objs d
  simpa only [hd] using this

/-- A pointer to a variable of the running call. -/
theorem R.ptr_inv {v : Value} {d off b : Nat} (h : R ρ A w v (.ptr d off)) (hd : ρ d = some (.box b)) : v = .pointer (some ⟨b, off, none⟩) := by
  cases h with
  | ptr _ _ _ h1 h2 => exact h2 b hd
  | _ => simp_all [AV.rowlen]

theorem R.own_inv {v u : Value} {d n len : Nat} {ro : RO} (h : R ρ A w v (.own d n)) (hd : ρ d = some ro) (hv : ro.val? = some (u, len)) (hn : len = n) : v = u := by
  cases h with
  | own _ _ _ h1 h2 => exact (h2 ro u len hd hv).2 hn.symm
  | _ => simp_all [AV.rowlen]

theorem R.eptr_inv {v u : Value} {d n off len g cap : Nat} {ro : RO} (h : R ρ A w v (.eptr d n off)) (hd : ρ d = some ro) (hv : ro.val? = some (u, len)) (hn : len = n) (hu : u = .slice (some ⟨g, 0, none⟩) len cap) :
    v = .pointer (some ⟨g, off, none⟩) := by
  cases h with
  | eptr _ _ _ _ h1 h2 => exact (h2 ro u len hd hv).2 hn.symm g cap hu
  | _ => simp_all [AV.rowlen]

/-- A variable of the running call. -/
theorem St.box (h : St w0 A0 A ρ s a w) {d : Nat} (hd : isBox s.obj d = true) : ∃ b ob cs, s.obj d = some ob ∧ ob.c = .agg cs ∧ ρ d = some (.box b) ∧ ObjOk ρ A w0.heap.size w ob (.box b) := by
  unfold isBox at hd
  split at hd
  · rename_i ob hob
    split at hd
    · rename_i cs hcs
      obtain ⟨ro, hro, hok⟩ := h.live hob
      cases ro with
      | box b => exact ⟨b, ob, cs, hob, hcs, hro, hok⟩
      | fix b n cap => obtain ⟨_, _, h0, _⟩ := hok; rw [hcs] at h0; simp [AV.rowlen] at h0
      | row u n => obtain ⟨h0, _⟩ := hok; rw [hcs] at h0; simp [AV.rowlen] at h0
    · cases hd
  · cases hd

/-- A row of the running call: its value, where its cells are. -/
theorem St.row (h : St w0 A0 A ρ s a w) {d n : Nat} {ob : Obj} (hd : s.obj d = some ob) (hn : ob.c.rowlen = some n) : ∃ ro u, ρ d = some ro ∧ ObjOk ρ A w0.heap.size w ob ro ∧ ro.val? = some (u, n) ∧ ((u = .slice none 0 0 ∧ n = 0) ∨ ∃ g cap, u = .slice (some ⟨g, 0, none⟩) n cap ∧ n ≤ cap ∧ ro.blk? = some g ∧
    (∀ i x, ob.c.cell? i = some x → w.frozen? ⟨g, i, none⟩ = false ∧ ∃ v, w.cell? ⟨g, i, none⟩ = some v ∧ v.oneCell' = true ∧ R ρ A w v x)) := by
  obtain ⟨ro, hro, hok⟩ := h.live hd
  cases ro with
  | box b => obtain ⟨h0, _⟩ := hok; rw [hn] at h0; cases h0
  | fix b m cap =>
    have hok' := hok
    obtain ⟨happ, h0, h00, h1, h2, h3, h4, h5⟩ := hok'
    rw [hn] at h00; cases h00
    exact ⟨_, _, hro, hok, rfl, .inr ⟨b, cap, rfl, h0, rfl, h5⟩⟩
  | row u m =>
    have hok' := hok
    obtain ⟨h0, ⟨vs, h1, h2⟩, h3⟩ := hok'
    rw [hn] at h0; cases h0
    refine ⟨_, u, hro, hok, rfl, ?_⟩
    rcases h1.2 with ⟨rfl, rfl⟩ | ⟨g, cap, cur, rfl, h4, h5, h6, h7, h8, h9⟩
    · exact .inl ⟨rfl, rfl⟩
    · refine .inr ⟨g, cap, rfl, h6, rfl, fun i x hx => ?_⟩
      obtain ⟨v, hv, hv1, hv2⟩ := h2 i x hx
      refine ⟨by simp only [World.frozen?, h5]; simp, v, ?_, hv1, hv2⟩
      have hi : i < n * ob.c.esz := by rw [← h1.1]; exact (List.getElem?_eq_some_iff.1 hv).1
      rw [← h9, List.getElem?_take_of_lt hi] at hv
      simp only [World.cell?, h5]
      simpa using hv

/-- A pointer into a row of the running call. -/
theorem St.eptr (h : St w0 A0 A ρ s a w) {d n off : Nat} {ob : Obj} {v : Value} (hd : s.obj d = some ob) (hn : ob.c.rowlen = some n) (h0 : 0 < n) (hv : R ρ A w v (.eptr d n off)) :
    ∃ ro g, ρ d = some ro ∧ ObjOk ρ A w0.heap.size w ob ro ∧ ro.blk? = some g ∧ v = .pointer (some ⟨g, off, none⟩) ∧ (∃ cap, ro.val? = some (.slice (some ⟨g, 0, none⟩) n cap, n)) ∧
    (∀ i x, ob.c.cell? i = some x → w.frozen? ⟨g, i, none⟩ = false ∧ ∃ v, w.cell? ⟨g, i, none⟩ = some v ∧ v.oneCell' = true ∧ R ρ A w v x) := by
  obtain ⟨ro, u, hro, hok, hval, hh⟩ := h.row hd hn
  rcases hh with ⟨_, rfl⟩ | ⟨g, cap, rfl, hc, hb, hcells⟩
  · omega
  · exact ⟨ro, g, hro, hok, hb, hv.eptr_inv hro hval rfl rfl, ⟨cap, hval⟩, hcells⟩

theorem ok_field {t : TypeId} {x : Operand} {f : Nat} {ti : TI} {pre : Prop} {v : AV} {u : List (Nat × Option Obj)} {n : List Nat} (hT : TabOk P tab) (ho : o.op = .fieldAddr t x f) (h : St w0 A0 A ρ s a w)
    (h1 : tab t = some ti) (hx : afield ti (s.ev x) f s.obj = .val pre v u n) (hp : pre) : Goes P o a w (Sim w0 A0 (s.app o.dst v u)) := by
  unfold afield at hx
  split at hx
  · rename_i off ft k hk h2
    obtain ⟨d, hd, hk'⟩ := (hT t ti h1).und
    unfold TKok at hk'
    rw [hk] at hk'
    obtain ⟨fs, rfl, hm1, hm2⟩ := hk'
    obtain ⟨fd, hfd, ho1, ho2, fi, hfi, hfs⟩ := TKok.field hm1 hm2 h2
    have run : ∀ (b q : Nat), a.eval x = .pointer (some ⟨b, q, none⟩) → (execOp a.eval o).run P w = .ok (.value (.pointer (some ⟨b, q + off, none⟩))) w := by
      intro b q hb
      have hz : fi.size ≠ 0 := by omega
      simp [execOp, ho, hb, Instr.fieldAt, run_underlying hd, hfd, Instr.sureAddr, fieldPlace, ho1, ho2, sizeOf, typeInfo, hfi, hz, Addr.add_lit]
    split at hx
    · rename_i d2 q hq
      split at hx
      · rename_i hb
        cases hx
        obtain ⟨b, ob, cs, hob, hcs, hro, hok⟩ := h.box hb
        have hv := R.ptr_inv (hq ▸ h.ev x : R ρ A w (a.eval x) _) hro
        exact goes_value h (run b q hv) (.ptr _ _ _ rfl fun b' hb' => by rw [hro] at hb'; cases hb'; rfl)
      · cases hx
    · rename_i c q hq
      cases hx
      obtain ⟨b, o0, vs, hv, hA, hc1, hc2, hc3⟩ := (hq ▸ h.ev x : R ρ A w (a.eval x) _).cptr_inv
      refine goes_value h (run b (o0 + q) hv) ?_
      rw [Nat.add_assoc]
      exact .cptr b o0 (q + off) c vs hA hc1 hc2 hc3
    · rename_i d2 m q hq
      split at hx
      · rename_i ob hob
        cases hx
        obtain ⟨ro, g, hro, hok, hb, hv, ⟨cap, hval⟩, hcells⟩ := h.eptr hob hp.1 hp.2 (hq ▸ h.ev x : R ρ A w (a.eval x) _)
        refine goes_value h (run g q hv) (.eptr _ _ _ _ rfl fun o' u' len' ho' hv' => ?_)
        rw [hro] at ho'; cases ho'
        rw [hval] at hv'; cases hv'
        exact ⟨Nat.le_refl _, fun _ g' cap' e => by cases e; rfl⟩
      · cases hx
    · cases hx
  · cases hx
end
end Go.Proofs.Ytefbgdnobnemkaa.AM
