/-
  Room for a row that is yet to be made: cap of nothing; zeros appended to nothing.
-/
import Derived.Test.YtefbgdnobnemkaaDoorK3
import Derived.Lib.AppendZeros
set_option linter.unusedSimpArgs false
set_option linter.unusedVariables false
set_option linter.unusedSectionVars false
namespace Go.Proofs.YtefbgdnobnemkaaDoor.AM
open Go Go.RowKit

section
variable {P : Program} {eq2 : TypeId → Bool} {tab : Tab} {ops : Array Oper} {i : Nat} {l : List Oper} {s s1 : AState} {Q : AState → Prop} {o : Oper}

theorem SRun.capNil {c : Call} {x : Operand} (hw : wantB ops o s = some true) (ho : o.op = .call c) (hc : c.callee = .builtin .cap) (ha : c.args = #[x]) {t e : TypeId} (ht : c.argTypes = #[t]) (hu : P.underlying t = some (.slice e)) (hx : s.ev x = .nilsl)
    (h : SRun P ops (i + 1) l (s.app o.dst (.int .i64 0) []) Q) : SRun P ops i (o :: l) s Q := by
  refine SRun.other hw (fun s1 => s1 = s.app o.dst (.int .i64 0) []) (fun w0 A0 A ρ a w QQ hs => ?_) (fun s1 hs1 => hs1 ▸ h)
  have r1 := (hx ▸ hs.ev x : R ρ A w (a.eval x) _).nilsl_inv
  obtain ⟨kb, hkb⟩ := exec_builtin (a := a) ho hc
  refine Goes.wp (K := fun a w => ∃ s1, s1 = s.app o.dst (.int .i64 0) [] ∧ Sim w0 A0 s1 a w) ?_
  obtain ⟨v, w', h1, h2⟩ | ⟨w', h1, h2⟩ := goes_value (P := P) (o := o) hs (val := .int .i64 0) (by rw [hkb, ha, ht]; simp [builtin, r1, Builtin.cap_, run_underlying hu, goInt]) (.int _ _)
  · exact .inl ⟨v, w', h1, _, rfl, h2⟩
  · exact .inr ⟨w', h1, _, rfl, h2⟩

theorem zeroCells_one {z : Array Value} (hz : z.size = 1) (n : Nat) : (Builtin.zeroCells z n).toList = List.replicate n (z.getD 0 undef) := by
  unfold Builtin.zeroCells
  rw [hz]
  apply List.ext_getElem?
  intro i
  simp only [Nat.mul_one, Nat.mod_one, Array.toList_map, Array.toList_range, List.getElem?_map, List.getElem?_replicate]
  by_cases hi : i < n
  · rw [List.getElem?_range hi, if_pos hi]
    show some z[0]! = some (z.getD 0 undef)
    rw [getElem!_pos z 0 (by omega), Array.getD_eq_getD_getElem?, Array.getElem?_eq_getElem (by omega)]; rfl
  · rw [List.getElem?_eq_none (by simp; omega), if_neg hi]; rfl

/-- n zeros appended to nothing: a new row of the call's own. -/
theorem SRun.zerosNil (hT : TabOk P tab) {c : Call} {x y : Operand} {t tn e : TypeId} {ti tni ei : TI} {k : IntKind} {n d : Nat} {q : Int} {kn : IntKind} (hw : wantB ops o s = some true) (ho : o.op = .call c) (hc : c.callee = .builtin .append) (ha : c.args = #[x, y]) (ht : c.argTypes = #[t, tn])
    (h1 : tab t = some ti) (hk : ti.k = .slice e) (h2 : tab tn = some tni) (hk2 : tni.k = .int kn) (h3 : tab e = some ei) (hes : ei.k = .str) (hx : s.ev x = .nilsl) (hy : s.ev y = .int k q) (hn : n = q.toNat) (h0 : 0 < q) (hbig : (q.toNat : Int) ≤ 9223372036854775807) (hzero : ei.zero[0]? = some (.str [])) (hb : q * ei.bytes ≤ 140737488355328) (hd : o.dst = some d) (hf : s.fresh d)
    (h : SRun P ops (i + 1) l (s.app o.dst (.own d n) [(d, some ⟨true, true, .slS (List.replicate n []), e⟩)]) Q) : SRun P ops i (o :: l) s Q := by
  refine SRun.other hw (fun s1 => s1 = s.app o.dst (.own d n) [(d, some ⟨true, true, .slS (List.replicate n []), e⟩)]) (fun w0 A0 A ρ a w QQ hs => ?_) (fun s1 hs1 => hs1 ▸ h)
  have r1 := (hx ▸ hs.ev x : R ρ A w (a.eval x) _).nilsl_inv
  have r2 := (hy ▸ hs.ev y : R ρ A w (a.eval y) _).int_inv
  obtain ⟨kb, hkb⟩ := exec_builtin (a := a) ho hc
  have hu := und_slice (hT t ti h1) hk
  have hun := und_int (hT tn tni h2) hk2
  have hsz := (hT e ei h3).sz1 hes
  obtain ⟨i0, z, hi, hs1, hs2, hs3, hs4, _, hs6⟩ := (hT e ei h3).info
  subst hn
  have hq : q = (q.toNat : Int) := by omega
  have hby : q.toNat * i0.bytes ≤ 140737488355328 := by
    rw [hs2]
    have : ((q.toNat * ei.bytes : Nat) : Int) = q * ei.bytes := by rw [Int.natCast_mul, ← hq]
    omega
  have h63 : (q.toNat : Int) ≤ 9223372036854775807 := hbig
  have hr := Lib.run_append_nil_zeros (P := P) w t tn o.type e i0 z k kn hu hun hi hs3 q.toNat (by omega) (by omega) h63 (by omega)
  rw [← hq] at hr
  obtain ⟨hz1, hz2⟩ := hs6 ρ A w 0 (.str []) hzero
  have hcap1 := grownCap_ge w q.toNat 0 e
  have hcap2 := grownCap_le_maxLen w q.toNat 0 e (by unfold maxLen; omega)
  generalize grownCap w q.toNat 0 e = cap at hr hcap1 hcap2
  have hbel : Below w.heap.size w (w.drew.alloc (.cells (Builtin.zeroCells z.cells q.toNat ++ Builtin.zeroCells z.cells (cap - q.toNat)) e)) := (Below.refl _ w).drew.alloc (Nat.le_refl _) _
  have hz : z.cells.size = 1 := by omega
  have hown : (w.drew.alloc (.cells (Builtin.zeroCells z.cells q.toNat ++ Builtin.zeroCells z.cells (cap - q.toNat)) e)).ownsRow w0.heap.size e 1 (.slice (some ⟨w.heap.size, 0, none⟩) q.toNat cap) q.toNat (List.replicate q.toNat (z.cells.getD 0 undef)) := by
    refine ⟨by simp, .inr ⟨w.heap.size, cap, Builtin.zeroCells z.cells q.toNat ++ Builtin.zeroCells z.cells (cap - q.toNat), rfl, hs.below.size, ?_, hcap1, hcap2, ?_, ?_⟩⟩
    · show (w.heap.push _)[w.heap.size]? = _
      simp
    · rw [Array.size_append, size_zeroCells, size_zeroCells, hz]; omega
    · rw [Array.toList_append, List.take_append_of_le_length (by rw [Array.length_toList, size_zeroCells, hz]; omega), zeroCells_one hz, List.take_of_length_le (by simp)]
  have h' := hs.newobj hf hbel (ob := { wr := true, app := true, c := .slS (List.replicate q.toNat []), e := e }) (ro := .row (.slice (some ⟨w.heap.size, 0, none⟩) q.toNat cap) q.toNat)
    (fun b hb' => by
      simp only [RO.blk?, Value.ownBlock, Option.some.injEq] at hb'
      subst hb'
      exact ⟨Nat.le_refl _, by simp⟩)
    ⟨by simp [AV.rowlen], ⟨_, hown, fun j x hx => by
      simp only [AV.cell?, List.getElem?_replicate, Option.map_eq_some_iff] at hx
      obtain ⟨y, hy, rfl⟩ := hx
      split at hy
      · rename_i hj
        cases hy
        exact ⟨_, by rw [List.getElem?_replicate, if_pos hj], hz2, hz1.flat rfl⟩
      · cases hy⟩, fun b hb' => by
        simp only [Value.ownBlock, Option.some.injEq] at hb'
        subst hb'
        exact ⟨by simp, fun _ hA => absurd (hs.bound _ hA) (by omega), fun hx => (by cases hx)⟩⟩
  have hrun : (execOp a.eval o).run P w = .ok (.value (.slice (some ⟨w.heap.size, 0, none⟩) q.toNat cap)) (w.drew.alloc (.cells (Builtin.zeroCells z.cells q.toNat ++ Builtin.zeroCells z.cells (cap - q.toNat)) e)) := by
    rw [hkb, ha, ht]; simp [builtin, r1, r2, hr]
  refine Goes.wp (K := fun a w => ∃ s1, s1 = s.app o.dst (.own d q.toNat) [(d, some ⟨true, true, .slS (List.replicate q.toNat []), e⟩)] ∧ Sim w0 A0 s1 a w) (.inl ⟨_, _, hrun, _, rfl, A, (ρ.set d (.row (.slice (some ⟨w.heap.size, 0, none⟩) q.toNat cap) q.toNat)), ?_⟩)
  rw [hd]
  refine h'.put (some d) (x := .own d q.toNat) (.own d q.toNat _ rfl fun o' u' len' ho' hv' => ?_)
  rw [Rho.set_same] at ho'; cases ho'; cases hv'
  exact ⟨Nat.le_refl _, fun _ => rfl⟩
end

section
variable {P : Program} {eq2 : TypeId → Bool} {tab : Tab} {ops : Array Oper} {i : Nat} {l : List Oper} {T T1 : TS} {Q : TS → Prop} {o : Oper}

/-- One operation. -/
theorem URun.val1 (hT : Tabs P eq2 tab) {pre : Prop} {v : AV} {u : List (Nat × Option Obj)} {n : List Nat} (hw : TS.want ops o T = some true) (hx : aop eq2 tab o T.ev T.obj = .val pre v u n) (hf : T.freshA n = true) (hp : pre)
    (hs : T.appF o.dst v u some = some T1) (h : URun P ops (i + 1) l T1 Q) : URun P ops i (o :: l) T Q := by
  rw [TS.appF_eq] at hs
  cases hs
  exact URun.val hT hw hx hf hp h

theorem URun.capNil {c : Call} {x : Operand} {t e : TypeId} {ti : TI} (hT : Tabs P eq2 tab) (hw : TS.want ops o T = some true) (ho : o.op = .call c) (hc : c.callee = .builtin .cap) (ha : c.args = #[x]) (ht : c.argTypes = #[t]) (h1 : tab t = some ti) (hk : ti.k = .slice e) (hx : T.ev x = .nilsl)
    (hs : T.appF o.dst (.int .i64 0) [] some = some T1) (h : URun P ops (i + 1) l T1 Q) : URun P ops i (o :: l) T Q := ⟨fun hgood => by
  rw [TS.appF_eq] at hs
  cases hs
  have h1' := TS.app_st hgood o.dst (.int .i64 0) []
  have h2 := h.run h1'.2
  rw [h1'.1] at h2
  exact SRun.capNil (by rw [TS.want_st]; exact hw) ho hc ha ht (und_slice (hT.tab t ti h1) hk) (by rw [TS.st_ev]; exact hx) h2⟩

theorem URun.zerosNil {c : Call} {x y : Operand} {t tn e : TypeId} {ti tni ei : TI} {k : IntKind} {d : Nat} {q : Int} {kn : IntKind} (hT : Tabs P eq2 tab) (hw : TS.want ops o T = some true) (ho : o.op = .call c) (hc : c.callee = .builtin .append) (ha : c.args = #[x, y]) (ht : c.argTypes = #[t, tn])
    (h1 : tab t = some ti) (hk : ti.k = .slice e) (h2 : tab tn = some tni) (hk2 : tni.k = .int kn) (h3 : tab e = some ei) (hes : ei.k = .str) (hzero : ei.zero[0]? = some (.str [])) (hx : T.ev x = .nilsl) (hy : T.ev y = .int k q) (hb : 0 < q ∧ q * ei.bytes ≤ 140737488355328 ∧ (q.toNat : Int) ≤ 9223372036854775807) (hd : o.dst = some d) (hf : T.freshA [d] = true)
    (hs : T.appF o.dst (.own d q.toNat) [(d, some ⟨true, true, .slS (List.replicate q.toNat []), e⟩)] some = some T1) (h : URun P ops (i + 1) l T1 Q) : URun P ops i (o :: l) T Q := ⟨fun hgood => by
  rw [TS.appF_eq] at hs
  cases hs
  have h1' := TS.app_st hgood o.dst (.own d q.toNat) [(d, some ⟨true, true, .slS (List.replicate q.toNat []), e⟩)]
  have h2' := h.run h1'.2
  rw [h1'.1] at h2'
  exact SRun.zerosNil hT.tab (by rw [TS.want_st]; exact hw) ho hc ha ht h1 hk h2 hk2 h3 hes (by rw [TS.st_ev]; exact hx) (by rw [TS.st_ev]; exact hy) rfl hb.1 hb.2.2 hzero hb.2.1 hd (fresh_of (List.all_eq_true.1 hf d (by simp))) h2'⟩
end

end Go.Proofs.YtefbgdnobnemkaaDoor.AM
