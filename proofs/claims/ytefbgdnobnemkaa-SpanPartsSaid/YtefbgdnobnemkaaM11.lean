/-
  Each operation of the model does what the abstract machine says: lengths, loads, conversions, function values.
-/
import Derived.Test.YtefbgdnobnemkaaM10
namespace Go.Proofs.Ytefbgdnobnemkaa.AM
open Go Go.RowKit

section
variable {P : Program} {tab : Tab} {w0 : World} {A0 A : Nat → Prop} {ρ : Rho} {s : AState} {a : Act} {w : World} {o : Oper}

theorem exec_builtin {b : Builtin} {c : Call} (ho : o.op = .call c) (hc : c.callee = .builtin b) : ∃ k, execOp a.eval o = builtin b c.argTypes o.type k (c.args.map a.eval) := by
  unfold execOp resolve
  rw [ho]
  simp only [hc]
  exact ⟨_, rfl⟩

theorem len_row {t e : TypeId} {c : AV} {n : Nat} {v : Value} (hu : P.underlying t = some (.slice e)) (hc : c.rowlen = some n) (hv : R ρ A w v c) (ts : Array TypeId) (ht : ts[0]? = some t) (args : Array Value) (ha : args[0]? = some v) (ty : TypeId) :
    (Builtin.len_ ts ty args).run P w = .ok (.int .i64 (n : Int)) w := by
  rcases hv.row_inv hc with ⟨rfl, rfl⟩ | ⟨b, off, cap, vs, rfl, _⟩
  · simp [Builtin.len_, ht, ha, run_underlying hu, goInt]
  · simp [Builtin.len_, ht, ha, run_underlying hu, goInt]

theorem ok_len_str {t : TypeId} {x : Operand} {c : Call} {l : List UInt8} {ti : TI} (hT : TabOk P tab) (ho : o.op = .call c) (hc : c.callee = .builtin .len) (h : St w0 A0 A ρ s a w)
    (h1 : tab t = some ti) (hk : ti.k = .str) (ht : c.argTypes[0]? = some t) (ha : c.args[0]? = some x) (hx : s.ev x = .str l) : Goes P o a w (Sim w0 A0 (s.app o.dst (.int .i64 (l.length : Int)) [])) := by
  have hu := und_str (hT t ti h1) hk
  have r1 := (hx ▸ h.ev x : R ρ A w (a.eval x) _).str_inv
  refine goes_value h (val := .int .i64 (l.length : Int)) ?_ (.int _ _)
  obtain ⟨kb, hkb⟩ := exec_builtin (a := a) ho hc; rw [hkb]
  have hs : (ByteArray.mk l.toArray).size = l.length := by simp [ByteArray.size]
  simp [builtin, Builtin.len_, ht, ha, r1, run_underlying hu, goInt, hs]

theorem ok_len_slice {t e : TypeId} {x : Operand} {c : Call} {ti : TI} {pre : Prop} {v : AV} {u : List (Nat × Option Obj)} {n : List Nat} (hT : TabOk P tab) (ho : o.op = .call c) (hc : c.callee = .builtin .len) (h : St w0 A0 A ρ s a w)
    (h1 : tab t = some ti) (hk : ti.k = .slice e) (ht : c.argTypes[0]? = some t) (ha : c.args[0]? = some x) (hns : ∀ l, s.ev x ≠ .str l) (hx : alenO (s.ev x) s.obj = .val pre v u n) (hp : pre) : Goes P o a w (Sim w0 A0 (s.app o.dst v u)) := by
  have hu := und_slice (hT t ti h1) hk
  have fin : ∀ (m : Nat) (c' : AV), c'.rowlen = some m → R ρ A w (a.eval x) c' → Goes P o a w (Sim w0 A0 (s.app o.dst (.int .i64 (m : Int)) [])) := by
    intro m c' hm hR
    refine goes_value h (val := .int .i64 (m : Int)) ?_ (.int _ _)
    obtain ⟨kb, hkb⟩ := exec_builtin (a := a) ho hc; rw [hkb]
    have := len_row (P := P) hu hm hR c.argTypes ht (c.args.map a.eval) (by simp [ha]) o.type
    simp [builtin, this]
  unfold alenO at hx
  split at hx
  · rename_i d m hm
    split at hx
    · rename_i ob hob
      cases hx
      obtain ⟨ro, uv, hro, hok, hval, hcase⟩ := h.row hob hp
      have r1 := (hm ▸ h.ev x : R ρ A w (a.eval x) _).own_inv hro hval rfl
      refine goes_value h (val := .int .i64 (m : Int)) ?_ (.int _ _)
      obtain ⟨kb, hkb⟩ := exec_builtin (a := a) ho hc; rw [hkb]
      rcases hcase with ⟨rfl, rfl⟩ | ⟨g, cap, rfl, _⟩
      · simp [builtin, Builtin.len_, ht, ha, r1, run_underlying hu, goInt]
      · simp [builtin, Builtin.len_, ht, ha, r1, run_underlying hu, goInt]
    · cases hx
  · unfold alen at hx
    split at hx
    · rename_i l hm; exact absurd hm (hns l)
    · rename_i l hm; cases hx; exact fin _ (.slS l) rfl (hm ▸ h.ev x)
    · rename_i l hm; cases hx; exact fin _ (.slB l) rfl (hm ▸ h.ev x)
    · rename_i sz cs hm; cases hx; exact fin _ (.slG sz cs) hp (hm ▸ h.ev x)
    · rename_i hm
      cases hx
      have r1 := (hm ▸ h.ev x : R ρ A w (a.eval x) _).nilsl_inv
      refine goes_value h (val := .int .i64 0) ?_ (.int _ _)
      obtain ⟨kb, hkb⟩ := exec_builtin (a := a) ho hc; rw [hkb]
      simp [builtin, Builtin.len_, ht, ha, r1, run_underlying hu, goInt]
    · cases hx

theorem ok_minmax {mx : Bool} {c : Call} {pre : Prop} {v : AV} {u : List (Nat × Option Obj)} {n : List Nat} (ho : o.op = .call c) (hc : c.callee = .builtin (if mx then .max else .min)) (h : St w0 A0 A ρ s a w)
    (hx : amin mx (c.args.toList.map s.ev) = .val pre v u n) : Goes P o a w (Sim w0 A0 (s.app o.dst v u)) := by
  unfold amin at hx
  split at hx
  · rename_i k p k' q hm
    have hlen : c.args.toList.length = 2 := by have := congrArg List.length hm; simpa using this
    obtain ⟨x, y, hl⟩ : ∃ x y, c.args.toList = [x, y] := by
      match c.args.toList, hlen with
      | [x, y], _ => exact ⟨x, y, rfl⟩
    rw [hl] at hm
    simp only [List.map_cons, List.map_nil, List.cons.injEq, and_true] at hm
    have r1 := (hm.1 ▸ h.ev x : R ρ A w (a.eval x) _).int_inv
    have r2 := (hm.2 ▸ h.ev y : R ρ A w (a.eval y) _).int_inv
    have ha : c.args = #[x, y] := Array.ext' (by simp [hl])
    split at hx
    · rename_i hk
      have hk := of_decide_eq_true hk
      subst hk
      split at hx
      · cases hx
        refine goes_value h (val := .int k (max p q)) ?_ (.int _ _)
        obtain ⟨kb, hkb⟩ := exec_builtin (a := a) ho hc; rw [hkb]
        simp only [if_true, builtin, Builtin.max_, ha, List.map_toArray, List.map_cons, List.map_nil, r1, r2]
        simp [Builtin.max2]
        by_cases hpq : p < q
        · rw [if_pos hpq]; omega
        · rw [if_neg hpq]; omega
      · cases hx
        refine goes_value h (val := .int k (min p q)) ?_ (.int _ _)
        obtain ⟨kb, hkb⟩ := exec_builtin (a := a) ho hc; rw [hkb]
        simp only [Bool.false_eq_true, if_false, builtin, Builtin.min_, ha, List.map_toArray, List.map_cons, List.map_nil, r1, r2]
        simp [Builtin.min2]
        by_cases hpq : q < p
        · rw [if_pos hpq]; omega
        · rw [if_neg hpq]; omega
    · cases hx
  · cases hx

theorem ok_nilCheck {x : Operand} {v : AV} (ho : o.op = .nilCheck x) (h : St w0 A0 A ρ s a w) (hx : (∃ f cs, s.ev x = .fn f cs) ∨ (∃ c off, s.ev x = .cptr c off) ∨ (∃ d off, s.ev x = .ptr d off ∧ isBox s.obj d = true)) (hv : v = s.ev x) :
    Goes P o a w (Sim w0 A0 (s.app o.dst v [])) := by
  subst hv
  refine goes_value h (val := a.eval x) ?_ (h.ev x)
  rcases hx with ⟨f, cs, hx⟩ | ⟨c, off, hx⟩ | ⟨d, off, hx, hb⟩
  · obtain ⟨vs, hv, _⟩ := (hx ▸ h.ev x : R ρ A w (a.eval x) _).fn_inv
    simp [execOp, ho, hv]
  · obtain ⟨b, o0, vs, hv, _⟩ := (hx ▸ h.ev x : R ρ A w (a.eval x) _).cptr_inv
    simp [execOp, ho, hv]
  · obtain ⟨b, ob, cs, hob, hcs, hro, hok⟩ := h.box hb
    have hv := R.ptr_inv (hx ▸ h.ev x : R ρ A w (a.eval x) _) hro
    simp [execOp, ho, hv]

theorem ok_makeFunc {f : FuncId} {caps : Array Operand} (ho : o.op = .makeFunc (.func f) #[] caps) (h : St w0 A0 A ρ s a w) :
    Goes P o a w (Sim w0 A0 (s.app o.dst (.fn f (caps.toList.map s.ev)) [])) := by
  refine goes_value h (val := .func (.func f) #[] (caps.map a.eval)) ?_ (.fn f _ _ (by simp) fun i x hx => ?_)
  · simp [execOp, ho, Instr.makeFunc]
  · rw [List.getElem?_map, Option.map_eq_some_iff] at hx
    obtain ⟨y, hy, rfl⟩ := hx
    have hi : caps[i]? = some y := by simpa using hy
    have : (caps.map a.eval).getD i undef = a.eval y := by simp [Array.getD_eq_getD_getElem?, hi]
    rw [this]
    exact h.ev y

/-- Cells that are read. -/
theorem goes_read {t : TypeId} {x : Operand} {ti : TI} {b o0 off : Nat} {c : AV} {pre' pre : Prop} {v : AV} {u : List (Nat × Option Obj)} {n : List Nat} (hT : TabOk P tab) (h1 : tab t = some ti) (ho : o.op = .load t x) (h : St w0 A0 A ρ s a w)
    (hv : a.eval x = .pointer (some ⟨b, o0 + off, none⟩)) (hc : ∀ i y, c.cell? i = some y → ∃ v, w.cell? ⟨b, o0 + i, none⟩ = some v ∧ v.oneCell' = true ∧ R ρ A w v y)
    (hx : aread ti pre' c off = .val pre v u n) (hp : pre) : Goes P o a w (Sim w0 A0 (s.app o.dst v u)) := by
  have hg := run_isAgg' (hT t ti h1) w
  have hs := run_sizeOf' (hT t ti h1) w
  unfold aread at hx
  split at hx
  · rename_i hag
    rw [hag] at hg
    cases hx
    have hcell : ∀ j, j < ti.size → ∃ v, w.cell? ⟨b, o0 + (off + j), none⟩ = some v ∧ v.oneCell' = true ∧ R ρ A w v (c.get (off + j)) := fun j hj => hc _ _ (AV.cell?_get (by have := hp.2; omega))
    have hl : (loadCells ⟨b, o0 + off, none⟩ ti.size).run P w = .ok ((List.range ti.size).map fun j => (w.cell? ⟨b, o0 + (off + j), none⟩).getD undef).toArray w := by
      refine run_loadCells w _ ti.size _ fun j hj => ?_
      obtain ⟨v, hv, _⟩ := hcell j hj
      rw [Addr.add_lit, Nat.add_assoc, hv]; rfl
    refine goes_value h (val := .agg ((List.range ti.size).map fun j => (w.cell? ⟨b, o0 + (off + j), none⟩).getD undef).toArray) ?_ (.agg _ _ (by simp [AV.sub]) (fun i y hy => ?_) (fun i hi => ?_))
    · simp [execOp, ho, Instr.loadAt, hv, Instr.sureAddr, loadVar, hg, hs, hl]
    · simp only [AV.sub, List.getElem?_map, Option.map_eq_some_iff] at hy
      obtain ⟨j, hj, rfl⟩ := hy
      have hi := (List.getElem?_eq_some_iff.1 hj).1
      simp at hi
      rw [List.getElem?_range hi] at hj; cases hj
      obtain ⟨v, hv, _, hR⟩ := hcell i hi
      simpa [Array.getD_eq_getD_getElem?, List.getElem?_range hi, hi, hv] using hR
    · simp [AV.sub] at hi
      obtain ⟨v, hv, h1, _⟩ := hcell i hi
      simpa [Array.getD_eq_getD_getElem?, List.getElem?_range hi, hi, hv] using h1
  · rename_i hag
    rw [hag] at hg
    cases hx
    obtain ⟨v, hv2, _, hR⟩ := hc _ _ (AV.cell?_get hp.2)
    refine goes_value h (val := v) ?_ hR
    simp [execOp, ho, Instr.loadAt, hv, Instr.sureAddr, loadVar, hg, hv2]

theorem ok_load {t : TypeId} {x : Operand} {ti : TI} {pre : Prop} {v : AV} {u : List (Nat × Option Obj)} {n : List Nat} (hT : TabOk P tab) (ho : o.op = .load t x) (h : St w0 A0 A ρ s a w)
    (h1 : tab t = some ti) (hz : 0 < ti.size) (hx : aload ti (s.ev x) s.obj = .val pre v u n) (hp : pre) : Goes P o a w (Sim w0 A0 (s.app o.dst v u)) := by
  unfold aload at hx
  split at hx
  · rename_i d off hm
    split at hx
    · rename_i ob hob
      split at hx
      · rename_i cs hcs
        obtain ⟨b, ob', cs', hob', hcs', hro, hok⟩ := h.box (d := d) (by simp [isBox, hob, hcs])
        rw [hob] at hob'; cases hob'
        have r1 := R.ptr_inv (hm ▸ h.ev x : R ρ A w (a.eval x) _) hro
        refine goes_read (o0 := 0) (c := .agg cs) hT h1 ho h (by rw [r1, Nat.zero_add]) (fun i y hy => ?_) hx hp
        rw [← hcs] at hy
        rw [Nat.zero_add]
        exact (hok.2.2.2.2.2 i y hy).2
      · cases hx
    · cases hx
  · rename_i c off hm
    obtain ⟨b, o0, vs, r1, hA, hc1, hc2, hc3⟩ := (hm ▸ h.ev x : R ρ A w (a.eval x) _).cptr_inv
    exact goes_read hT h1 ho h r1 (fun i y hy => ⟨_, hc1 i y hy, hc3 i y hy, hc2 i y hy⟩) hx hp
  · rename_i d m off hm
    split at hx
    · rename_i ob hob
      have hpre : ob.c.rowlen = some m ∧ off < ob.c.ncells := by
        unfold aread at hx
        split at hx <;> cases hx
        · exact ⟨hp.1, by omega⟩
        · exact hp
      have hm0 : 0 < m := by
        obtain ⟨h3, h4⟩ := hpre
        cases hc : ob.c <;> rw [hc] at h3 h4 <;> simp [AV.rowlen, AV.ncells] at h3 h4
        · omega
        · omega
        · rename_i sz cs
          have h3 : (AV.slG sz cs).rowlen = some m := by simpa [AV.rowlen] using h3
          obtain ⟨h5, h6⟩ := rowlen_G_inv h3
          rcases Nat.eq_zero_or_pos m with h0 | h0
          · subst h0; omega
          · exact h0
      obtain ⟨ro, g, hro, hok, hb, r1, _, hcells⟩ := h.eptr hob hpre.1 hm0 (hm ▸ h.ev x : R ρ A w (a.eval x) _)
      refine goes_read (o0 := 0) (c := ob.c) hT h1 ho h (by rw [r1, Nat.zero_add]) (fun i y hy => ?_) hx hp
      rw [Nat.zero_add]
      exact (hcells i y hy).2
    · cases hx
  · cases hx

end
end Go.Proofs.Ytefbgdnobnemkaa.AM
