/-
  The abstract machine: operations do what it says; drawn orders.
-/
import Derived.Test.YtefbgdnobnemkaaK1
import Derived.Laws.Tables
import Derived.Laws.MakeOwn
import Derived.Laws.BytesArg
import Derived.Lib.ConvBytes
set_option linter.unusedSimpArgs false
set_option linter.unusedVariables false
set_option linter.unusedSectionVars false
namespace Go.Proofs.Ytefbgdnobnemkaa.AM
open Go Go.RowKit

section
variable {P : Program} {tab : Tab} {w0 : World} {A0 A : Nat → Prop} {ρ : Rho} {s : AState} {a : Act} {w : World} {o : Oper}

/-- Cells written into an object of the running call. -/
theorem goes_write {t d g off : Nat} {x y : Operand} {ti : TI} {ob : Obj} {ro : RO} {cs : List AV} {c' : AV} (hT : TabOk P tab) (h1 : tab t = some ti) (ho : o.op = .store t x y) (h : St w0 A0 A ρ s a w)
    (hob : s.obj d = some ob) (hro : ρ d = some ro) (hg : ro.blk? = some g) (hv : a.eval x = .pointer (some ⟨g, off, none⟩)) (hwr : ob.wr = true)
    (hcells : ∀ i x, ob.c.cell? i = some x → w.frozen? ⟨g, i, none⟩ = false ∧ ∃ v, w.cell? ⟨g, i, none⟩ = some v ∧ v.oneCell' = true ∧ R ρ A w v x)
    (hc : (s.ev y).cellsOf = some cs) (hsz : cs.length = ti.size) (hset : ob.c.setAt off cs = some c') (hl : off + cs.length ≤ ob.c.ncells) (hb : ∀ bs, ob.c = .slB bs → ∀ n, cs = [.int .u8 n] → 0 ≤ n ∧ n ≤ 255) :
    Goes P o a w (Sim w0 A0 (s.app o.dst .junk [(d, some { ob with c := c' })])) := by
  obtain ⟨hv1, hv2⟩ := (h.ev y).cells hc
  obtain ⟨hset1, hset2, hset3⟩ := setAt_cell? hset hl hb
  obtain ⟨ro', hro', hok⟩ := h.live hob
  rw [hro] at hro'; cases hro'
  have hin : ∀ j, j < (a.eval y).cells.toList.length → ∃ v, w.cell? ⟨g, off + j, none⟩ = some v ∧ w.frozen? ⟨g, off + j, none⟩ = false := fun j hj => by
    have hj' : j < cs.length := by simpa [hv1] using hj
    obtain ⟨hf, v, hv, _⟩ := hcells _ _ (AV.cell?_get (show off + j < ob.c.ncells by omega))
    exact ⟨v, hv, hf⟩
  have hrun : (storeCells ⟨g, off, none⟩ (a.eval y).cells.toList 0).run P w = .ok () (w.setCells g (off + 0) (a.eval y).cells.toList) := by
    refine run_storeCells_cells g off _ 0 w (fun j hj => ?_) (fun j hj => ?_) (fun v hv => ?_)
    · obtain ⟨v, hv, _⟩ := hin j hj; rw [Nat.add_zero, hv]; rfl
    · obtain ⟨v, _, hf⟩ := hin j hj; rw [Nat.add_zero]; exact hf
    · obtain ⟨j, hj⟩ := List.getElem?_of_mem hv
      have hj2 := (List.getElem?_eq_some_iff.1 hj).1
      have := (hv2 j _ (List.getElem?_eq_getElem (show j < cs.length by simpa [hv1] using hj2))).1
      have e : (a.eval y).cells.getD j undef = v := by
        rw [Array.getD_eq_getD_getElem?, ← Array.getElem?_toList, hj]; rfl
      rwa [e] at this
  rw [Nat.add_zero] at hrun
  generalize hvs : (a.eval y).cells.toList = vs at hrun hin
  have hvl : vs.length = cs.length := by rw [← hvs, Array.length_toList, hv1]
  have hvR : ∀ j z, cs[j]? = some z → ∃ v, vs[j]? = some v ∧ v.oneCell' = true ∧ R ρ A w v z := fun j z hz => by
    obtain ⟨p1, p2⟩ := hv2 j z hz
    have hj := (List.getElem?_eq_some_iff.1 hz).1
    refine ⟨_, ?_, p1, p2⟩
    rw [← hvs, Array.getElem?_toList, Array.getD_eq_getD_getElem?, Array.getElem?_eq_getElem (by omega)]; rfl
  have hge : w0.heap.size ≤ g ∧ g < w.heap.size ∧ ¬ A g := by
    cases ro with
    | box b => cases hg; exact ⟨hok.2.1, hok.2.2.1, hok.2.2.2.1 hwr⟩
    | fix b n cap => cases hg; exact ⟨hok.2.2.2.1, hok.2.2.2.2.1, hok.2.2.2.2.2.1 hwr⟩
    | row u n =>
      obtain ⟨q0, ⟨us, q1, q2⟩, q3⟩ := hok
      obtain ⟨q4, q5, q6⟩ := q3 g hg
      refine ⟨?_, q4, q5 hwr⟩
      rcases q1.2 with ⟨rfl, _⟩ | ⟨g', cap, cur, rfl, q7, _⟩
      · cases hg
      · cases hg; exact q7
  -- the cells behind the store
  have hafter : ∀ i z, c'.cell? i = some z → (w.setCells g off vs).frozen? ⟨g, i, none⟩ = false ∧ ∃ v, (w.setCells g off vs).cell? ⟨g, i, none⟩ = some v ∧ v.oneCell' = true ∧ R ρ A w v z := by
    intro i z hz
    have hz' := hset3 i z hz
    rw [World.frozen?_setCells]
    by_cases hi : off ≤ i ∧ i < off + cs.length
    · rw [if_pos hi] at hz'
      obtain ⟨v, p1, p2, p3⟩ := hvR _ _ hz'
      obtain ⟨_, _, hf⟩ := hin (i - off) (by rw [hvl]; omega)
      rw [show off + (i - off) = i by omega] at hf
      refine ⟨hf, v, ?_, p2, p3⟩
      have hlt : i - off < vs.length := by omega
      have := World.cell?_setCells_in g vs off w (fun j hj => by obtain ⟨v, hv, _⟩ := hin j hj; rw [hv]; rfl) (i - off) hlt
      rw [show off + (i - off) = i by omega] at this
      rw [this, ← p1, List.getElem?_eq_getElem hlt]
    · rw [if_neg hi] at hz'
      obtain ⟨hf, v, p1, p2, p3⟩ := hcells i z hz'
      refine ⟨hf, v, ?_, p2, p3⟩
      rw [World.cell?_setCells_out g vs off w _ (fun _ _ => by simp only []; omega)]
      exact p1
  have hAw : ∀ b, A b → (w.setCells g off vs).heap[b]? = w.heap[b]? := fun b hb' => heap_setCells_other g vs off w b (fun e => hge.2.2 (e ▸ hb'))
  have hmono : ∀ {v : Value} {z : AV}, R ρ A w v z → R (ρ.set d ro) A (w.setCells g off vs) v z := fun hR => hR.later (fun _ h => h) hAw (fun y _ o' ho' => by
    by_cases hy : y = d
    · subst hy; rw [Rho.set_same] at ho'; cases ho'; exact ⟨ro, hro, RO.le_refl ro⟩
    · rw [Rho.set_other ρ ro hy] at ho'; exact ⟨o', ho', RO.le_refl o'⟩)
  have hok' : ObjOk (ρ.set d ro) A w0.heap.size (w.setCells g off vs) { ob with c := c' } ro := by
    cases ro with
    | box b =>
      cases hg
      obtain ⟨q0, q1, q2, q3, q4, q5⟩ := hok
      refine ⟨hset1.trans q0, q1, by rw [size_setCells]; exact q2, q3, q4, fun i z hz => ?_⟩
      obtain ⟨hf, v, p1, p2, p3⟩ := hafter i z hz
      exact ⟨hf, v, p1, p2, hmono p3⟩
    | fix b n cap =>
      cases hg
      obtain ⟨q9, q0, q00, q1, q2, q3, q4, q5⟩ := hok
      refine ⟨q9, q0, hset1.trans q00, q1, by rw [size_setCells]; exact q2, q3, q4, fun i z hz => ?_⟩
      obtain ⟨hf, v, p1, p2, p3⟩ := hafter i z hz
      exact ⟨hf, v, p1, p2, hmono p3⟩
    | row u n =>
      obtain ⟨q0, ⟨us, q1, q2⟩, q3⟩ := hok
      rcases q1.2 with ⟨rfl, _⟩ | ⟨g', cap, cur, rfl, q7, q8, q9, q10, q11, q12⟩
      · cases hg
      · have eg : g = g' := by simpa [RO.blk?, Value.ownBlock] using hg.symm
        subst eg
        have hh := heap_setCells_same g vs off w q8
        refine ⟨hset1.trans q0, ⟨(setA cur off vs).toList.take (n * ob.c.esz), ⟨?_, .inr ⟨g, cap, _, rfl, q7, hh, q9, q10, ?_, ?_⟩⟩, fun i z hz => ?_⟩, fun b hb' => ?_⟩
        · show _ = n * c'.esz
          rw [hset2, List.length_take, Array.length_toList, setA_size, q11]
          exact Nat.min_eq_left (Nat.mul_le_mul_right _ q9)
        · show _ = cap * c'.esz
          rw [setA_size, hset2]; exact q11
        · show _ = List.take _ _
          rw [hset2]
        · obtain ⟨hf, v, p1, p2, p3⟩ := hafter i z hz
          refine ⟨v, ?_, p2, hmono p3⟩
          have hi : i < n * ob.c.esz := by
            have hz' := hset3 i z hz
            have hlt : i < ob.c.ncells := by
              by_cases hi : off ≤ i ∧ i < off + cs.length
              · omega
              · rw [if_neg hi] at hz'; exact AV.cell?_lt hz'
            obtain ⟨v2, p4, _⟩ := q2 i _ (AV.cell?_get hlt)
            rw [← q1.1]; exact (List.getElem?_eq_some_iff.1 p4).1
          rw [List.getElem?_take_of_lt hi, Array.getElem?_toList]
          simp only [World.cell?, hh] at p1
          simpa using p1
        · obtain ⟨q4, q5, q6⟩ := q3 b hb'
          exact ⟨by rw [size_setCells]; exact q4, q5, q6⟩
  have h' := h.reobj hro (RO.le_refl ro) (below_setCells hge.1 vs off w) (fun k _ hk => heap_setCells_other g vs off w k (fun e => hk (by rw [hg, e]))) (fun b hb' => by rw [hg] at hb'; cases hb'; exact hge.2.2)
    (fun b hb' => ⟨by rw [size_setCells]; exact h.rbound d ro b hro hb', .inl hb'⟩) hok'
  refine .inr ⟨w.setCells g off vs, ?_, A, _, h'.put o.dst (.junk _)⟩
  have hsz2 : ¬ (a.eval y).cells.size ≠ ti.size := by rw [hv1, hsz]; simp
  simp only [execOp, ho, Instr.storeAt, hv, Instr.sureAddr, pure_bind, storeVar, Sem.run_bind, run_sizeOf' (hT t ti h1), Result.andThen_ok, if_neg hsz2, hvs, hrun, Sem.run_pure]

theorem ok_store {t : TypeId} {x y : Operand} {ti : TI} {pre : Prop} {v : AV} {u : List (Nat × Option Obj)} {n : List Nat} (hT : TabOk P tab) (ho : o.op = .store t x y) (h : St w0 A0 A ρ s a w)
    (h1 : tab t = some ti) (hz : 0 < ti.size) (hx : astore ti (s.ev x) (s.ev y) s.obj = .val pre v u n) (hp : pre) : Goes P o a w (Sim w0 A0 (s.app o.dst v u)) := by
  unfold astore at hx
  split at hx
  · rename_i d off hm
    split at hx
    · rename_i ob hob
      split at hx
      · rename_i cs0 hcs0
        unfold awrite at hx
        split at hx
        · rename_i cs hwr hcs
          split at hx
          · rename_i c' hl hset
            cases hx
            obtain ⟨b, ob', cs', hob', hcs', hro, hok⟩ := h.box (d := d) (by simp [isBox, hob, hcs0])
            rw [hob] at hob'; cases hob'
            have r1 := R.ptr_inv (hm ▸ h.ev x : R ρ A w (a.eval x) _) hro
            exact goes_write hT h1 ho h hob hro rfl r1 hwr hok.2.2.2.2.2 hcs (by simpa using hl) hset hp.2.1 (fun bs hb => by rw [hcs0] at hb; cases hb)
          · cases hx
        · cases hx
      · cases hx
    · cases hx
  · rename_i d m off hm
    split at hx
    · rename_i ob hob
      unfold awrite at hx
      split at hx
      · rename_i cs hwr hcs
        split at hx
        · rename_i c' hl hset
          cases hx
          have hl : cs.length = ti.size := by simpa using hl
          have hm0 : 0 < m := by
            obtain ⟨h3, h4, _⟩ := hp
            cases hc : ob.c <;> rw [hc] at h3 h4 <;> simp [AV.rowlen, AV.ncells] at h3 h4
            · omega
            · omega
            · rename_i sz cs2
              have h3 : (AV.slG sz cs2).rowlen = some m := by simpa [AV.rowlen] using h3
              obtain ⟨h5, h6⟩ := rowlen_G_inv h3
              rcases Nat.eq_zero_or_pos m with h0 | h0
              · subst h0; omega
              · exact h0
          obtain ⟨ro, g, hro, hok, hb, r1, _, hcells⟩ := h.eptr hob hp.1 hm0 (hm ▸ h.ev x : R ρ A w (a.eval x) _)
          refine goes_write hT h1 ho h hob hro hb r1 hwr hcells hcs hl hset hp.2.1 (fun bs hb m2 hm2 => ?_)
          have := hp.2.2
          rw [hb, hm2] at this
          exact this
        · cases hx
      · cases hx
    · cases hx
  · cases hx

end
end Go.Proofs.Ytefbgdnobnemkaa.AM

namespace Go.Proofs.Ytefbgdnobnemkaa.AM
open Go Go.RowKit

theorem fold_setA (v : Array Value) (cells : Array Value) (off : Nat) : v.zipIdx.foldl (fun cs (c, j) => cs.setIfInBounds (off + j) c) cells = setA cells off v.toList := by
  rw [← Array.foldl_toList, Array.toList_zipIdx]
  suffices h : ∀ (l : List Value) (k : Nat) (cells : Array Value), (l.zipIdx k).foldl (fun cs (x : Value × Nat) => cs.setIfInBounds (off + x.2) x.1) cells = setA cells (off + k) l by
    exact h v.toList 0 cells
  intro l
  induction l with
  | nil => intro k cells; rfl
  | cons c l ih => intro k cells; rw [List.zipIdx_cons, List.foldl_cons, ih]; rfl

/-- Cells read as a list. -/
def RA (ρ : Rho) (A : Nat → Prop) (w : World) (cs : Array Value) (xs : List AV) : Prop :=
  cs.size = xs.length ∧ ∀ i x, xs[i]? = some x → (cs.getD i undef).oneCell' = true ∧ R ρ A w (cs.getD i undef) x

theorem getD_setA' (vs : List Value) (cs : Array Value) (o i : Nat) : (setA cs o vs).getD i undef = if o ≤ i ∧ i < o + vs.length ∧ i < cs.size then (vs[i - o]?).getD undef else cs.getD i undef := by
  have e : cs.toList.length = cs.size := Array.length_toList
  rw [Array.getD_eq_getD_getElem?, ← Array.getElem?_toList, setA_toList, setL_getElem?, e]
  split
  · rfl
  · rw [Array.getElem?_toList, Array.getD_eq_getD_getElem?]

theorem RA.setA {ρ : Rho} {A : Nat → Prop} {w : World} {cs : Array Value} {xs : List AV} (h : RA ρ A w cs xs) {v : Array Value} {ys : List AV} (hv : RA ρ A w v ys) (o : Nat) : RA ρ A w (setA cs o v.toList) (setL xs o ys) := by
  refine ⟨by rw [setA_size, setL_length]; exact h.1, fun i x hx => ?_⟩
  rw [setL_getElem?] at hx
  rw [getD_setA', Array.length_toList, hv.1, h.1]
  by_cases hi : o ≤ i ∧ i < o + ys.length ∧ i < xs.length
  · rw [if_pos hi] at hx ⊢
    have := hv.2 _ _ hx
    rwa [Array.getD_eq_getD_getElem?, ← Array.getElem?_toList] at this
  · rw [if_neg hi] at hx ⊢
    exact h.2 i x hx

theorem cellsOf_RA {ρ : Rho} {A : Nat → Prop} {w : World} {v : Value} {x : AV} {cs : List AV} (h : R ρ A w v x) (hc : x.cellsOf = some cs) : RA ρ A w v.cells cs := h.cells hc

section
variable {P : Program} {tab : Tab} {w0 : World} {A0 A : Nat → Prop} {ρ : Rho} {s : AState} {a : Act} {w : World} {o : Oper}

theorem fill_R {place place' : Nat → Option (Nat × Nat)} (hpl : ∀ i q, place' i = some q → place i = some q) (h : St w0 A0 A ρ s a w) : ∀ (parts : List (Nat × Operand)) {cells : Array Value} {xs ys : List AV}, RA ρ A w cells xs →
    afill place' xs (parts.map fun p => (p.1, s.ev p.2)) = some ys → ∃ cells', Instr.fill place cells (parts.map fun p => (p.1, a.eval p.2)) = some cells' ∧ RA ρ A w cells' ys
  | [], cells, xs, ys, hr, hf => by
    simp [afill] at hf
    subst hf
    exact ⟨cells, rfl, hr⟩
  | (i, x) :: rest, cells, xs, ys, hr, hf => by
    simp only [List.map_cons, afill] at hf
    split at hf
    · rename_i off sz cs hp hc
      split at hf
      · rename_i hl hle
        have hl : cs.length = sz := by simpa using hl
        have hle : off + cs.length ≤ xs.length := Nat.le_of_ble_eq_true hle
        have hv := cellsOf_RA (h.ev x) hc
        obtain ⟨cells', h1, h2⟩ := fill_R hpl h rest (hr.setA hv off) hf
        refine ⟨cells', ?_, h2⟩
        have e1 : ((a.eval x).cells.size ≠ sz || off + (a.eval x).cells.size > cells.size) = false := by
          rw [hv.1, hl, hr.1]
          simp; omega
        simp only [List.map_cons, Instr.fill, hpl _ _ hp]
        rw [e1]
        simp only [Bool.false_eq_true, if_false, fold_setA]
        exact h1
      · cases hf
    · cases hf

theorem zero_RA {t : TypeId} {ti : TI} (h : TIok P t ti) : ∃ i z, P.info? t = some i ∧ i.zero = some z ∧ i.size = ti.size ∧ RA ρ A w z.cells ti.zero := by
  obtain ⟨i, z, hi, hs1, hs2, hs3, hs4, hs5, hs6⟩ := h.info
  exact ⟨i, z, hi, hs3, hs1, by rw [hs4, hs5], fun j x hx => ⟨(hs6 ρ A w j x hx).2, (hs6 ρ A w j x hx).1⟩⟩

theorem goes_agg (h : St w0 A0 A ρ s a w) {cells : Array Value} {xs : List AV} (hr : (execOp a.eval o).run P w = .ok (.value (.agg cells)) w) (hx : RA ρ A w cells xs) : Goes P o a w (Sim w0 A0 (s.app o.dst (.agg xs) [])) := by
  refine goes_value h hr (.agg cells xs hx.1 (fun i x hi => (hx.2 i x hi).2) (fun i hi => ?_))
  exact (hx.2 i _ (List.getElem?_eq_getElem hi)).1

theorem ok_build {t : TypeId} {parts : Array (Nat × Operand)} {pre : Prop} {v : AV} {u : List (Nat × Option Obj)} {n : List Nat} (hT : TabOk P tab) (ho : o.op = .build t parts) (h : St w0 A0 A ρ s a w)
    (hx : abuild tab t (parts.toList.map fun p => (p.1, s.ev p.2)) = .val pre v u n) : Goes P o a w (Sim w0 A0 (s.app o.dst v u)) := by
  unfold abuild at hx
  split at hx
  · rename_i ti h1
    obtain ⟨i, z, hi, hz, hs, hR⟩ := zero_RA (ρ := ρ) (A := A) (w := w) (hT t ti h1)
    have run : ∀ {cells : Array Value}, P.built t (parts.toList.map fun p => (p.1, a.eval p.2)) = some cells → (execOp a.eval o).run P w = .ok (.value (.agg cells)) w := by
      intro cells hb
      have := run_build w t (parts.map fun p => (p.1, a.eval p.2)) cells (by simpa using hb)
      simp [execOp, ho, this]
    split at hx
    · rename_i hk
      split at hx
      · rename_i ys hf
        cases hx
        obtain ⟨d, hd, hk'⟩ := (hT t ti h1).und
        unfold TKok at hk'
        rw [hk] at hk'
        obtain ⟨fs, rfl, hm1, hm2⟩ := hk'
        obtain ⟨cells', h2, h3⟩ := fill_R (place := fun i => (ti.flds.map fun f => (f.1, f.2.2)).toArray[i]?) (fun i q hq => by simpa using hq) h parts.toList hR hf
        refine goes_agg h (run ?_) h3
        unfold Program.built
        simp only [hi, hd, hz, hm1]
        exact h2
      · cases hx
    · rename_i m e hk
      split at hx
      · rename_i ei he
        split at hx
        · rename_i ys hf
          cases hx
          have hd := und_array (hT t ti h1) hk
          obtain ⟨ie, ze, hie, hze, hse, _⟩ := zero_RA (ρ := ρ) (A := A) (w := w) (hT e ei he)
          obtain ⟨cells', h2, h3⟩ := fill_R (place := fun i => some (i * ei.size, ei.size)) (fun i q hq => hq) h parts.toList hR hf
          refine goes_agg h (run ?_) h3
          unfold Program.built
          simp only [hi, hd, hz, hie, hse]
          exact h2
        · cases hx
      · cases hx
    · cases hx
  · cases hx

theorem toSs_cell? : ∀ {cs : List AV} {ls : List (List UInt8)}, toSs cs = some ls → ls.length = cs.length ∧ ∀ (i : Nat) (x : AV), (AV.slS ls).cell? i = some x → cs[i]? = some x
  | [], ls, h => by simp [toSs] at h; subst h; exact ⟨rfl, fun i x hx => by simp [AV.cell?] at hx⟩
  | c :: cs, ls, h => by
    cases c <;> simp only [toSs, reduceCtorEq] at h
    rename_i l
    rw [Option.map_eq_some_iff] at h
    obtain ⟨r, hr, rfl⟩ := h
    obtain ⟨h1, h2⟩ := toSs_cell? hr
    refine ⟨by simp [h1], fun i x hx => ?_⟩
    cases i with
    | zero => simpa [AV.cell?] using hx
    | succ i =>
      have := h2 i x (by simpa [AV.cell?] using hx)
      simpa using this

theorem toBs_cell? : ∀ {cs : List AV} {ls : List UInt8}, toBs cs = some ls → ls.length = cs.length ∧ ∀ (i : Nat) (x : AV), cs[i]? = some x → ∃ n, x = .int .u8 n ∧ ls[i]? = some (UInt8.ofNat n.toNat)
  | [], ls, h => by simp [toBs] at h; subst h; exact ⟨rfl, fun i x hx => by simp at hx⟩
  | c :: cs, ls, h => by
    cases c <;> try (simp [toBs] at h; done)
    rename_i k n
    cases k <;> try (simp [toBs] at h; done)
    simp only [toBs] at h
    rw [Option.map_eq_some_iff] at h
    obtain ⟨r, hr, rfl⟩ := h
    obtain ⟨h1, h2⟩ := toBs_cell? hr
    refine ⟨by simp [h1], fun i x hx => ?_⟩
    cases i with
    | zero => simp at hx; subst hx; exact ⟨n, rfl, by simp⟩
    | succ i =>
      obtain ⟨m, hm, hm2⟩ := h2 i x (by simpa using hx)
      exact ⟨m, hm, by simpa using hm2⟩

theorem toRow_ok {k : TK} {sz n : Nat} {cells : List AV} {c : AV} (h : toRow k sz cells = some c) (hk : k = .str → sz = 1) (hl : cells.length = n * sz) : c.rowlen = some n ∧ c.esz = sz ∧ ∀ i x, c.cell? i = some x → cells[i]? = some x := by
  unfold toRow at h
  split at h
  · rw [Option.map_eq_some_iff] at h
    obtain ⟨ls, hls, rfl⟩ := h
    obtain ⟨h1, h2⟩ := toSs_cell? hls
    have := hk rfl
    exact ⟨by simp [AV.rowlen, h1, hl, this], by simp [AV.esz, this], h2⟩
  · split at h
    · cases h
    · cases h
      exact ⟨rowlen_G (by omega) hl, rfl, fun i x hx => hx⟩

/-- A new row. -/
theorem goes_newrow {d e n sz : Nat} {cells : Array Value} {xs : List AV} {c : AV} (h : St w0 A0 A ρ s a w) (hf : s.fresh d) (hrun : (execOp a.eval o).run P w = .ok (.value (.slice (some ⟨w.heap.size, 0, none⟩) n n)) (w.alloc (.cells cells e (0, 0))))
    (hR : RA ρ A w cells xs) (hlen : xs.length = n * sz) (hc1 : c.rowlen = some n) (hc2 : c.esz = sz) (hc3 : ∀ i x, c.cell? i = some x → xs[i]? = some x) (hm : d ∉ c.ments) (hmax : n ≤ maxLen) :
    Goes P o a w (Sim w0 A0 (s.app o.dst (.own d n) [(d, some { wr := true, app := true, c := c, e := e })])) := by
  have hb := below_alloc w (.cells cells e (0, 0))
  have hnew : (w.alloc (.cells cells e (0, 0))).heap[w.heap.size]? = some (.cells cells e (0, 0)) := heap_alloc_new w _
  have hs : (w.alloc (.cells cells e (0, 0))).heap.size = w.heap.size + 1 := by simp
  have h' := h.newobj hf hb (ob := { wr := true, app := true, c := c, e := e }) (ro := .row (.slice (some ⟨w.heap.size, 0, none⟩) n n) n) (fun b hb' => by
      have hbb : w.heap.size = b := by simpa [RO.blk?, Value.ownBlock] using hb'
      exact ⟨by omega, by omega⟩)
    ⟨hc1, ⟨cells.toList, ⟨by rw [Array.length_toList, hR.1, hlen]; exact congrArg _ hc2.symm, .inr ⟨w.heap.size, n, cells, rfl, h.below.size, hnew, Nat.le_refl _, hmax, by rw [hR.1, hlen]; exact congrArg _ hc2.symm, by
        rw [List.take_of_length_le]; rw [Array.length_toList, hR.1, hlen]; exact Nat.le_of_eq (congrArg _ hc2.symm)⟩⟩, fun i x hx => by
        have hi := hc3 i x hx
        obtain ⟨h2, h3⟩ := hR.2 i x hi
        have hlt : i < cells.size := by rw [hR.1]; exact (List.getElem?_eq_some_iff.1 hi).1
        refine ⟨cells.getD i undef, by rw [Array.getElem?_toList, Array.getD_eq_getD_getElem?, Array.getElem?_eq_getElem hlt]; rfl, h2, ?_⟩
        exact h3.mono (fun _ h => h) (fun b hb' => hb.block b (h.bound b hb')) (fun x hx' => Rho.set_other ρ _ (fun e => hm (AV.cell?_ments hx (e ▸ hx'))))⟩,
      fun b hb' => by
        have hbb : w.heap.size = b := by simpa [Value.ownBlock] using hb'
        exact ⟨by omega, fun _ hA => absurd (h.bound _ hA) (by omega), fun hx => (by cases hx)⟩⟩
  exact .inl ⟨_, _, hrun, A, ρ.set d (.row (.slice (some ⟨w.heap.size, 0, none⟩) n n) n), h'.put o.dst (.own d n _ rfl fun o' u' len' ho' hv' => by
    rw [Rho.set_same] at ho'; cases ho'; cases hv'; exact ⟨Nat.le_refl _, fun _ => rfl⟩)⟩

/-- What a row mentions, one of its cells does. -/
theorem row_ments {c : AV} {n d : Nat} (hd : d ∈ c.ments) (hr : c.rowlen = some n := by assumption) : ∃ (i : Nat) (x : AV), c.cell? i = some x ∧ d ∈ x.ments := by
  cases c <;> simp [AV.ments, AV.rowlen] at hd hr
  obtain ⟨i, x, hx, hdx⟩ := mentsL_of hd
  exact ⟨i, x, hx, hdx⟩

theorem afill_mem {place : Nat → Option (Nat × Nat)} : ∀ (parts : List (Nat × AV)) {xs ys : List AV}, afill place xs parts = some ys → ys.length = xs.length ∧ ∀ (i : Nat) (y : AV), ys[i]? = some y → xs[i]? = some y ∨ ∃ (p : Nat × AV) (cs : List AV) (j : Nat), p ∈ parts ∧ p.2.cellsOf = some cs ∧ cs[j]? = some y
  | [], xs, ys, h => by simp [afill] at h; subst h; exact ⟨rfl, fun i y hy => .inl hy⟩
  | (k, x) :: rest, xs, ys, h => by
    simp only [afill] at h
    split at h
    · rename_i off sz cs hp hc
      split at h
      · obtain ⟨h1, h2⟩ := afill_mem rest h
        refine ⟨by rw [h1, setL_length], fun i y hy => ?_⟩
        rcases h2 i y hy with h3 | ⟨p, cs', j, hp', hc', hj⟩
        · rw [setL_getElem?] at h3
          split at h3
          · exact .inr ⟨_, cs, _, List.mem_cons_self, hc, h3⟩
          · exact .inl h3
        · exact .inr ⟨p, cs', j, List.mem_cons_of_mem _ hp', hc', hj⟩
      · cases h
    · cases h

theorem ok_buildSlice {t d len : Nat} {parts : Array (Nat × Operand)} {pre : Prop} {v : AV} {u : List (Nat × Option Obj)} {n : List Nat} (hT : TabOk P tab) (hstr : ∀ e ei, tab e = some ei → ei.k = .str → ei.size = 1) (ho : o.op = .buildSlice t len parts) (h : St w0 A0 A ρ s a w) (hf : s.fresh d)
    (hx : abuildSlice tab (some d) t len (parts.toList.map fun p => (p.1, s.ev p.2)) = .val pre v u n) : Goes P o a w (Sim w0 A0 (s.app o.dst v u)) := by
  unfold abuildSlice at hx
  split at hx
  · rename_i ti d' h1 hd'
    cases hd'
    split at hx
    · rename_i e hk
      split at hx
      · rename_i ei he
        split at hx
        · rename_i ys hs1 hs2 hfil
          split at hx
          · rename_i c hrow
            cases hx
            have hs1 : 1 ≤ ei.size := Nat.le_of_ble_eq_true hs1
            have hs2 : len * ei.size ≤ 4096 := Nat.le_of_ble_eq_true hs2
            have hu := und_slice (hT t ti h1) hk
            obtain ⟨i, z, hi, hz, hs, hR⟩ := zero_RA (ρ := ρ) (A := A) (w := w) (hT e ei he)
            have hzl : ei.zero.length = ei.size := by
              obtain ⟨i, z, _, _, _, _, _, h5, _⟩ := (hT e ei he).info; exact h5
            have hR0 : RA ρ A w ((Array.range (len * ei.size)).map fun j => z.cells[j % z.cells.size]!) ((List.range (len * ei.size)).map fun i => ei.zero.getD (i % ei.size) .junk) := by
              refine ⟨by simp, fun j x hx => ?_⟩
              rw [List.getElem?_map, Option.map_eq_some_iff] at hx
              obtain ⟨q, hq, rfl⟩ := hx
              have hj := (List.getElem?_eq_some_iff.1 hq).1
              simp at hj
              rw [List.getElem?_range hj] at hq; cases hq
              have hm : j % ei.size < ei.size := Nat.mod_lt _ (by omega)
              have := hR.2 (j % ei.size) _ (List.getElem?_eq_getElem (by omega))
              have e1 : ((Array.range (len * ei.size)).map fun j => z.cells[j % z.cells.size]!).getD j undef = z.cells.getD (j % ei.size) undef := by
                rw [Array.getD_eq_getD_getElem?, Array.getElem?_map, Array.getElem?_range, if_pos hj]
                simp only [Option.map_some, Option.getD_some, hR.1, hzl]
                rw [getElem!_pos _ _ (by rw [hR.1, hzl]; exact hm), Array.getD_eq_getD_getElem?, Array.getElem?_eq_getElem (by rw [hR.1, hzl]; exact hm)]
                rfl
              rw [e1, List.getD_eq_getElem?_getD, List.getElem?_eq_getElem (by omega)]
              exact this
            obtain ⟨cells', h2, h3⟩ := fill_R (place := fun i => some (i * ei.size, ei.size)) (fun i q hq => hq) h parts.toList hR0 hfil
            obtain ⟨hyl, hym⟩ := afill_mem _ hfil
            have hyl : ys.length = len * ei.size := by rw [hyl]; simp
            obtain ⟨hc1, hc2, hc3⟩ := toRow_ok hrow (hstr e ei he) hyl
            refine goes_newrow h hf ?_ h3 hyl hc1 hc2 hc3 ?_ ?_
            · have hcs : (if len * i.size = 0 then (#[] : Array Value) else z.cells) = if len * i.size = 0 then #[] else z.cells := rfl
              have h2' : Instr.fill (fun k => some (k * i.size, i.size)) ((Array.range (len * i.size)).map fun x => (if len * i.size = 0 then (#[] : Array Value) else z.cells)[x % (if len * i.size = 0 then (#[] : Array Value) else z.cells).size]!) (parts.toList.map fun p => (p.1, a.eval p.2)) = some cells' := by
                rw [hs]
                by_cases h0 : len * ei.size = 0
                · rw [h0] at h2
                  rw [if_pos h0, h0]
                  have e0 : ∀ f : Nat → Value, Array.map f (Array.range 0) = #[] := fun f => by simp
                  rw [e0] at h2 ⊢
                  exact h2
                · rw [if_neg h0]; exact h2
              have hle : ¬ len * i.size > 16777216 := by rw [hs]; omega
              by_cases h0 : len * i.size = 0
              · rw [if_pos h0] at h2'
                simp [execOp, ho, Instr.buildSlice, run_underlying hu, sizeOf, typeInfo, hi, h0, newRow] at h2' ⊢
                simp [h2']
              · rw [if_neg h0] at h2'
                simp [execOp, ho, Instr.buildSlice, run_underlying hu, sizeOf, typeInfo, zeroValue, hi, hz, hle, h0, newRow] at h2' ⊢
                simp [h2']
            · intro hm
              obtain ⟨q, y, hy, hdy⟩ := row_ments hm
              rcases hym q y (hc3 q y hy) with h4 | ⟨p, cs, j, hp', hcs, hj⟩
              · rw [List.getElem?_map, Option.map_eq_some_iff] at h4
                obtain ⟨r, hr, rfl⟩ := h4
                rw [List.getD_eq_getElem?_getD] at hdy
                cases hzr : ei.zero[r % ei.size]? with
                | none => rw [hzr] at hdy; simp [AV.ments] at hdy
                | some zz => rw [hzr] at hdy; simp only [Option.getD_some] at hdy; rw [(hT e ei he).zm _ _ hzr] at hdy; cases hdy
              · simp only [List.mem_map] at hp'
                obtain ⟨p0, _, rfl⟩ := hp'
                exact fresh_ev hf p0.2 (cellsOf_ments hcs hj hdy)
            · have : len ≤ len * ei.size := Nat.le_mul_of_pos_right _ (by omega)
              unfold maxLen; omega
          · cases hx
        · cases hx
      · cases hx
    · cases hx
  · cases hx

end
end Go.Proofs.Ytefbgdnobnemkaa.AM

namespace Go.Proofs.Ytefbgdnobnemkaa.AM
open Go Go.RowKit

theorem ncells_row {c : AV} {m : Nat} (h : c.rowlen = some m) : c.ncells = m * c.esz ∧ c.rowlenD = m := by
  cases c <;> simp [AV.rowlen] at h
  · subst h; simp [AV.ncells, AV.esz, AV.rowlenD]
  · subst h; simp [AV.ncells, AV.esz, AV.rowlenD]
  · rename_i sz cs
    obtain ⟨h1, rfl⟩ := h
    exact ⟨h1.2, rfl⟩

theorem cat_ok {c c2 c' : AV} {n m : Nat} (h : c.cat c2 = some c') (hn : c.rowlen = some n) (hm : c2.rowlen = some m) (he : c.esz = c2.esz) : c'.rowlen = some (n + m) ∧ c'.esz = c.esz ∧
    (∀ i x, c'.cell? i = some x → if i < n * c.esz then c.cell? i = some x else c2.cell? (i - n * c.esz) = some x) ∧ ∀ d ∈ c'.ments, d ∈ c.ments ∨ d ∈ c2.ments := by
  unfold AV.cat at h
  split at h
  · cases h
    simp [AV.rowlen] at hn hm; subst hn hm
    refine ⟨by simp [AV.rowlen], rfl, fun i x hx => ?_, fun d hd => by simp [AV.ments] at hd⟩
    simp only [AV.cell?, AV.esz, Nat.mul_one, List.getElem?_append] at hx ⊢
    split <;> simp_all
  · cases h
    simp [AV.rowlen] at hn hm; subst hn hm
    refine ⟨by simp [AV.rowlen], rfl, fun i x hx => ?_, fun d hd => by simp [AV.ments] at hd⟩
    simp only [AV.cell?, AV.esz, Nat.mul_one, List.getElem?_append] at hx ⊢
    split <;> simp_all
  · rename_i sz a sz' b
    split at h
    · rename_i hs
      have hs : sz = sz' := by simpa using hs
      subst hs
      cases h
      obtain ⟨h1, h2⟩ := rowlen_G_inv hn
      obtain ⟨_, h3⟩ := rowlen_G_inv hm
      refine ⟨rowlen_G h1 (by rw [List.length_append, h2, h3, Nat.add_mul]), rfl, fun i x hx => ?_, fun d hd => ?_⟩
      · show if i < n * sz then a[i]? = some x else b[i - n * sz]? = some x
        simp only [AV.cell?, List.getElem?_append, h2] at hx
        by_cases hi : i < n * sz
        · rw [if_pos hi] at hx ⊢; exact hx
        · rw [if_neg hi] at hx ⊢; exact hx
      · simp only [AV.ments] at hd ⊢
        obtain ⟨i, x, hx, hdx⟩ := mentsL_of hd
        rw [List.getElem?_append] at hx
        split at hx
        · exact .inl (mem_mentsL hx hdx)
        · exact .inr (mem_mentsL hx hdx)
    · cases h
  · cases h

section
variable {P : Program} {tab : Tab} {w0 : World} {A0 A : Nat → Prop} {ρ : Rho} {s : AState} {a : Act} {w : World} {o : Oper}

/-- What is appended, as it lies in memory. -/
theorem St.src (h : St w0 A0 A ρ s a w) {v : AV} {p : Prop} {c : AV} {val : Value} (hc : acont v s.obj = some (p, some c)) (hp : p) (hv : R ρ A w val v) :
    ∃ m, c.rowlen = some m ∧ (∀ d, d ∉ v.ments → (∀ ob d', s.obj d' = some ob → d' ∈ v.ments → d ∉ ob.c.ments) → d ∉ c.ments) ∧ ((val = .slice none 0 0 ∧ m = 0) ∨ ∃ (b off cap : Nat) (news : List Value), val = .slice (some ⟨b, off, none⟩) m cap ∧ news.length = m * c.esz ∧ (∀ j u, news[j]? = some u → w.cell? ((⟨b, off, none⟩ : Addr).add j) = some u) ∧
      (∀ u ∈ news, u.oneCell' = true) ∧ ∀ i y, c.cell? i = some y → ∃ u, news[i]? = some u ∧ u.oneCell' = true ∧ R ρ A w u y) := by
  have closed : ∀ (c : AV) (m : Nat), c.rowlen = some m → R ρ A w val c → (val = .slice none 0 0 ∧ m = 0) ∨ ∃ (b off cap : Nat) (news : List Value), val = .slice (some ⟨b, off, none⟩) m cap ∧ news.length = m * c.esz ∧ (∀ j u, news[j]? = some u → w.cell? ((⟨b, off, none⟩ : Addr).add j) = some u) ∧
      (∀ u ∈ news, u.oneCell' = true) ∧ ∀ i y, c.cell? i = some y → ∃ u, news[i]? = some u ∧ u.oneCell' = true ∧ R ρ A w u y := by
    intro c m hm hR
    rcases hR.row_inv hm with h0 | ⟨b, off, cap, vs, hval, hA, hcap, h1, h2, h3⟩
    · exact .inl h0
    · have hnc := (ncells_row hm).1
      refine .inr ⟨b, off, cap, (List.range c.ncells).map vs, hval, by simp [hnc], fun j u hu => ?_, fun u hu => ?_, fun i y hy => ?_⟩
      · rw [List.getElem?_map, Option.map_eq_some_iff] at hu
        obtain ⟨q, hq, rfl⟩ := hu
        have hj := (List.getElem?_eq_some_iff.1 hq).1
        simp at hj
        rw [List.getElem?_range hj] at hq; cases hq
        rw [Addr.add_lit]
        exact h1 j _ (AV.cell?_get hj)
      · simp only [List.mem_map, List.mem_range] at hu
        obtain ⟨j, hj, rfl⟩ := hu
        exact h3 j _ (AV.cell?_get hj)
      · have hi := AV.cell?_lt hy
        exact ⟨vs i, by simp [List.getElem?_range hi], h3 i y hy, h2 i y hy⟩
  unfold acont at hc
  split at hc
  · cases hc
  · cases hc; exact ⟨_, rfl, fun d hd _ => hd, closed _ _ rfl hv⟩
  · cases hc; exact ⟨_, rfl, fun d hd _ => hd, closed _ _ rfl hv⟩
  · cases hc; exact ⟨_, hp, fun d hd _ => hd, closed _ _ hp hv⟩
  · rename_i d n
    split at hc
    · rename_i ob hob
      cases hc
      obtain ⟨ro, u, hro, hok, hval, hcase⟩ := h.row hob hp
      have hvu := hv.own_inv hro hval rfl
      refine ⟨n, hp, fun d' _ h2 => h2 ob d hob (by simp [AV.ments]), ?_⟩
      rcases hcase with ⟨rfl, rfl⟩ | ⟨g, cap, rfl, hcap, hb, hcells⟩
      · exact .inl ⟨hvu, rfl⟩
      · have hnc := (ncells_row hp).1
        refine .inr ⟨g, 0, cap, (List.range ob.c.ncells).map fun i => (w.cell? ⟨g, i, none⟩).getD undef, hvu, by simp [hnc], fun j u hu => ?_, fun u hu => ?_, fun i y hy => ?_⟩
        · rw [List.getElem?_map, Option.map_eq_some_iff] at hu
          obtain ⟨q, hq, rfl⟩ := hu
          have hj := (List.getElem?_eq_some_iff.1 hq).1
          simp at hj
          rw [List.getElem?_range hj] at hq; cases hq
          obtain ⟨_, v, hv, _⟩ := hcells j _ (AV.cell?_get hj)
          rw [Addr.add_lit, Nat.zero_add, hv]; rfl
        · simp only [List.mem_map, List.mem_range] at hu
          obtain ⟨j, hj, rfl⟩ := hu
          obtain ⟨_, v, hv, h1, _⟩ := hcells j _ (AV.cell?_get hj)
          rw [hv]; exact h1
        · have hi := AV.cell?_lt hy
          obtain ⟨_, v, hv, h1, hR⟩ := hcells i y hy
          exact ⟨v, by simp [List.getElem?_range hi, hv], h1, hR⟩
    · cases hc
  · cases hc

theorem ownsRow_base {B B' : Nat} {e : TypeId} {sz : Nat} {v : Value} {n : Nat} {xs : List Value} (h : w.ownsRow B e sz v n xs) (hB : B' ≤ B) : w.ownsRow B' e sz v n xs := by
  refine ⟨h.1, ?_⟩
  rcases h.2 with h | ⟨g, cap, cur, h1, h2, h3⟩
  · exact .inl h
  · exact .inr ⟨g, cap, cur, h1, by omega, h3⟩

/-- append, whatever is appended. -/
theorem run_append_any (base : Nat) (t ty e : TypeId) (i : TypeInfo) (z : Value) (size bytes : Nat) (ht : P.underlying t = some (.slice e)) (hi : P.info? e = some i) (hz : i.zero = some z)
    (hsize : i.size = size) (hby : i.bytes = bytes) (hzs : z.cells.size = size) (hsz : 0 < size)
    (v : Value) (n : Nat) (xs : List Value) (hown : w.ownsRow base e size v n xs) (x : Value) (m : Nat) (news : List Value) (hnl : news.length = m * size)
    (hx : (x = .slice none 0 0 ∧ m = 0) ∨ ∃ (b off cap : Nat), x = .slice (some ⟨b, off, none⟩) m cap ∧ (∀ j u, news[j]? = some u → w.cell? ((⟨b, off, none⟩ : Addr).add j) = some u) ∧ (∀ u ∈ news, u.oneCell' = true))
    (h63 : n + m ≤ maxLen) (hbytes : (n + m) * bytes ≤ 140737488355328) (hbase : base ≤ w.heap.size) :
    ∃ v' w', (Builtin.append_ #[t, t] ty #[v, x]).run P w = .ok v' w' ∧ w'.ownsRow base e size v' (n + m) (xs ++ news) ∧ w.grownBy w' v.ownBlock ∧ (m = 0 → v' = v ∧ w' = w) ∧ ∀ b, v'.ownBlock = some b → v.ownBlock = some b ∨ w.heap.size ≤ b := by
  by_cases hm : m = 0
  · subst hm
    have hn : news = [] := List.eq_nil_of_length_eq_zero (by simpa using hnl)
    subst hn
    have hvs : ∃ base' cap, v = .slice base' n cap ∧ n ≤ cap := by
      rcases hown.2 with ⟨rfl, rfl⟩ | ⟨g, cap, cur, rfl, _, _, h1, _⟩
      · exact ⟨none, 0, rfl, Nat.le_refl _⟩
      · exact ⟨_, cap, rfl, h1⟩
    obtain ⟨base', cap, hv, hcap⟩ := hvs
    refine ⟨v, w, ?_, by simpa using hown, ⟨rfl, rfl, rfl, Nat.le_refl _, fun _ _ _ => rfl⟩, fun _ => ⟨rfl, rfl⟩, fun b hb => .inl hb⟩
    rcases hx with ⟨rfl, _⟩ | ⟨b, off, c, rfl, _⟩
    · rw [hv]
      cases base' <;> simp [Builtin.append_, run_underlying ht, sizeOf, typeInfo, hi, Builtin.lenOf, Builtin.firstCells, hcap, storeCells]
    · rw [hv]
      cases base' <;> simp [Builtin.append_, run_underlying ht, sizeOf, typeInfo, hi, Builtin.lenOf, Builtin.firstCells, hcap, storeCells, loadCells, loadCellsFrom]
  · rcases hx with ⟨_, h0⟩ | ⟨b, off, c, rfl, hc1, hc2⟩
    · exact absurd h0 hm
    · obtain ⟨v', w', h1, h2, h3, h4⟩ := run_append_own (P := P) w base t ty e i z size bytes ht hi hz hsize hby hzs hsz v n xs hown ⟨b, off, none⟩ m c news hnl hc1 hc2 h63 hbytes hbase
      refine ⟨v', w', h1, h2, h3, fun h => absurd h hm, fun q hq => ?_⟩
      subst hsize hby
      rcases hown.2 with ⟨rfl, rfl⟩ | ⟨g, cap, cur, rfl, hbg, hg, hnc, hcm, hcs, htake⟩
      · have hx0 : xs = [] := List.eq_nil_of_length_eq_zero (by simpa using hown.1)
        have hr := run_append_nil (P := P) w t ty e i z ht hi hz ⟨b, off, none⟩ m c news hnl hc1 (by omega) (by unfold maxLen at h63; omega) (by have hb := hbytes; simp only [Nat.zero_add] at hb; omega)
        rw [h1] at hr
        simp only [Result.ok.injEq] at hr
        rw [hr.1] at hq
        cases hq
        exact .inr (Nat.le_refl _)
      · by_cases hroom : n + m ≤ cap
        · have hfit : n * i.size + news.length ≤ cur.size := by rw [hnl, hcs, ← Nat.add_mul]; exact Nat.mul_le_mul_right _ hroom
          have hr := run_append_room (P := P) w t ty e i ht hi g n cap cur hg ⟨b, off, none⟩ m c news hnl hc1 hc2 hroom hfit
          rw [h1] at hr
          simp only [Result.ok.injEq] at hr
          rw [hr.1] at hq
          exact .inl hq
        · have hr := run_append_grow (P := P) w t ty e i z ht hi hz ⟨g, 0, none⟩ n cap xs hown.1 (hown.cells (g := g) rfl) ⟨b, off, none⟩ m c news hnl hc1 (by omega) (by unfold maxLen at h63; omega) (growslice_fits (by omega) hbytes)
          rw [h1] at hr
          simp only [Result.ok.injEq] at hr
          rw [hr.1] at hq
          cases hq
          exact .inr (Nat.le_refl _)

theorem ok_append {t d e : Nat} {x y : Operand} {c : Call} {ti ei : TI} {pre : Prop} {v : AV} {u : List (Nat × Option Obj)} {n : List Nat} (hT : TabOk P tab) (ho : o.op = .call c) (hc : c.callee = .builtin .append) (h : St w0 A0 A ρ s a w)
    (ht : c.argTypes = #[t, t]) (ha : c.args = #[x, y]) (h1 : tab t = some ti) (hk : ti.k = .slice e) (h2 : tab e = some ei) (hb : 1 ≤ ei.bytes) (hf : ∀ d ∈ n, s.fresh d)
    (hx : aappend e ei.size ei.bytes d (s.ev x) (s.ev y) s.obj = .val pre v u n) (hp : pre) : Goes P o a w (Sim w0 A0 (s.app o.dst v u)) := by
  have hu := und_slice (hT t ti h1) hk
  obtain ⟨i, z, hi, hs1, hs2, hs3, hs4, _⟩ := (hT e ei h2).info
  have hpos := (hT e ei h2).pos
  obtain ⟨kb, hkb⟩ := exec_builtin (a := a) ho hc
  have hexec : ∀ {v' : Value} {w' : World}, (Builtin.append_ #[t, t] o.type #[a.eval x, a.eval y]).run P w = .ok v' w' → (execOp a.eval o).run P w = .ok (.value v') w' := by
    intro v' w' hr
    rw [hkb, ht, ha]
    simp [builtin, hr]
  have hmaxle : ∀ q, q * ei.bytes ≤ 140737488355328 → q ≤ maxLen := fun q hq => by
    have := Nat.le_trans (Nat.le_mul_of_pos_right q hb) hq
    unfold maxLen; omega
  unfold aappend at hx
  split at hx
  · -- onto nothing
    rename_i hbase
    have r1 := (hbase ▸ h.ev x : R ρ A w (a.eval x) _).nilsl_inv
    split at hx
    · rename_i p c2 hcont
      split at hx
      · rename_i hesz
        have hesz : c2.esz = ei.size := by simpa using hesz
        cases hx
        obtain ⟨hp1, hp2⟩ := hp
        obtain ⟨m, hm, hments, hsrc⟩ := h.src hcont hp1 (h.ev y)
        obtain ⟨hnc, hmD⟩ := ncells_row hm
        rw [hmD] at hp2 ⊢
        have hfd := hf d (by simp)
        have hdc : d ∉ c2.ments := hments d (fresh_ev hfd y) (fun ob d' hob hd' => hfd.2 d' ob (fun e => fresh_ev hfd y (e ▸ hd')) hob)
        obtain ⟨news, hnl, hsrc', hR⟩ : ∃ news : List Value, news.length = m * ei.size ∧ ((a.eval y = .slice none 0 0 ∧ m = 0) ∨ ∃ (b off cap : Nat), a.eval y = .slice (some ⟨b, off, none⟩) m cap ∧ (∀ j u, news[j]? = some u → w.cell? ((⟨b, off, none⟩ : Addr).add j) = some u) ∧ (∀ u ∈ news, u.oneCell' = true)) ∧
            ∀ i y, c2.cell? i = some y → ∃ u, news[i]? = some u ∧ u.oneCell' = true ∧ R ρ A w u y := by
          rcases hsrc with ⟨h0, rfl⟩ | ⟨b, off, cap, news, q1, q2, q3, q4, q5⟩
          · exact ⟨[], by simp, .inl ⟨h0, rfl⟩, fun i y hy => by have := AV.cell?_lt hy; omega⟩
          · exact ⟨news, by rw [q2, hesz], .inr ⟨b, off, cap, q1, q3, q4⟩, q5⟩
        obtain ⟨v', w', hr, hown, hgr, _, _⟩ := run_append_any (w := w) w.heap.size t o.type e i z ei.size ei.bytes hu hi hs3 hs1 hs2 hs4 hpos (.slice none 0 0) 0 [] (World.ownsRow_nil w _ e ei.size) (a.eval y) m news hnl hsrc' (by rw [Nat.zero_add]; exact hmaxle m hp2) (by rw [Nat.zero_add]; exact hp2) (Nat.le_refl _)
        rw [Nat.zero_add, List.nil_append] at hown
        have hbel : Below w.heap.size w w' := (Below.refl _ w).grown hgr (Nat.le_refl _) (fun k hk => by cases hk)
        have hlt : ∀ b, v'.ownBlock = some b → w.heap.size ≤ b ∧ b < w'.heap.size := fun b hb' => hown.lt b hb'
        have h' := h.newobj hfd hbel (ob := { wr := true, app := true, c := c2, e := e }) (ro := .row v' m) hlt
          ⟨hm, ⟨news, by rw [hesz]; exact ownsRow_base hown h.below.size, fun i x hx => by
            obtain ⟨q, q1, q2, q3⟩ := hR i x hx
            exact ⟨q, q1, q2, q3.mono (fun _ h => h) (fun b hb' => hbel.block b (h.bound b hb')) (fun x' hx' => Rho.set_other ρ _ (fun e => hdc (AV.cell?_ments hx (e ▸ hx'))))⟩⟩,
            fun b hb' => ⟨(hlt b hb').2, fun _ hA => absurd (h.bound _ hA) (by have := (hlt b hb').1; omega), fun hx => (by cases hx)⟩⟩
        have h1c : v'.oneCell' = true := by
          rcases hown.2 with ⟨rfl, _⟩ | ⟨g, cap, cur, rfl, _⟩ <;> rfl
        refine .inl ⟨v', w', hexec (by rw [r1]; exact hr), A, ρ.set d (.row v' m), h'.put o.dst (.own d m _ h1c fun o' u' len' ho' hv' => ?_)⟩
        rw [Rho.set_same] at ho'; cases ho'; cases hv'
        exact ⟨Nat.le_refl _, fun _ => rfl⟩
      · cases hx
    · rename_i p hcont
      cases hx
      have r2 : a.eval y = .slice none 0 0 := by
        unfold acont at hcont
        split at hcont <;> try (simp at hcont; done)
        · rename_i hy; exact (hy ▸ h.ev y : R ρ A w (a.eval y) _).nilsl_inv
        · split at hcont <;> simp at hcont
      refine goes_value h (val := .slice none 0 0) (hexec ?_) .nilsl
      rw [r1, r2]
      simp [Builtin.append_, run_underlying hu, sizeOf, typeInfo, hi, Builtin.lenOf, Builtin.firstCells]
    · cases hx
  · -- onto a row of the running call
    rename_i d' n' hbase
    split at hx
    · rename_i ob hob
      split at hx
      · rename_i p c2 hwa hoe hesz hcont
        split at hx
        · rename_i c' hesz2 hcat
          cases hx
          have hesz : ob.c.esz = ei.size := by simpa using hesz
          have hesz2 : c2.esz = ei.size := by simpa using hesz2
          have hoe : ob.e = e := by simpa using hoe
          obtain ⟨hwr, happ⟩ : ob.wr = true ∧ ob.app = true := by simpa using hwa
          obtain ⟨hp1, hp0, hp2⟩ := hp
          obtain ⟨m, hm, hments, hsrc⟩ := h.src hcont hp1 (h.ev y)
          obtain ⟨hnc, hmD⟩ := ncells_row hm
          rw [hmD] at hp2 ⊢
          obtain ⟨hcat1, hcat2, hcat3, hcat4⟩ := cat_ok hcat hp0 hm (by rw [hesz, hesz2])
          obtain ⟨ro, uv, hro, hok, hval, _⟩ := h.row hob hp0
          have r1 := (hbase ▸ h.ev x : R ρ A w (a.eval x) _).own_inv hro hval rfl
          obtain ⟨news, hnl, hsrc', hR⟩ : ∃ news : List Value, news.length = m * ei.size ∧ ((a.eval y = .slice none 0 0 ∧ m = 0) ∨ ∃ (b off cap : Nat), a.eval y = .slice (some ⟨b, off, none⟩) m cap ∧ (∀ j u, news[j]? = some u → w.cell? ((⟨b, off, none⟩ : Addr).add j) = some u) ∧ (∀ u ∈ news, u.oneCell' = true)) ∧
              ∀ i y, c2.cell? i = some y → ∃ u, news[i]? = some u ∧ u.oneCell' = true ∧ R ρ A w u y := by
            rcases hsrc with ⟨h0, rfl⟩ | ⟨b, off, cap, news, q1, q2, q3, q4, q5⟩
            · exact ⟨[], by simp, .inl ⟨h0, rfl⟩, fun i y hy => by have := AV.cell?_lt hy; omega⟩
            · exact ⟨news, by rw [q2, hesz2], .inr ⟨b, off, cap, q1, q3, q4⟩, q5⟩
          cases ro with
          | box b => cases hval
          | fix b q cap => obtain ⟨q9, _⟩ := hok; rw [happ] at q9; cases q9
          | row uv' q =>
            cases hval
            obtain ⟨_, ⟨xs, hown0, hxs⟩, hblk⟩ := hok
            rw [hesz, hoe] at hown0
            obtain ⟨v', w', hr, hown, hgr, hsame, hnewb⟩ := run_append_any (w := w) w0.heap.size t o.type e i z ei.size ei.bytes hu hi hs3 hs1 hs2 hs4 hpos uv n' xs hown0 (a.eval y) m news hnl hsrc' (hmaxle _ hp2) hp2 h.below.size
            have hlt0 := hown0.lt
            have hlt := hown.lt
            have hnA : ∀ b, uv.ownBlock = some b → ¬ A b := fun b hb' => (hblk b hb').2.1 hwr
            have hsameblk : ∀ k, k < w.heap.size → uv.ownBlock ≠ some k → w'.heap[k]? = w.heap[k]? := fun k hk hne => hgr.block k hk (fun e => hne e.symm)
            have hAw : ∀ b, A b → w'.heap[b]? = w.heap[b]? := fun b hb' => hsameblk b (h.bound b hb') (fun e => hnA b e hb')
            have hle : (RO.row uv n').le (.row v' (n' + m)) := by
              refine ⟨fun b hb' => (by cases hb'), fun u' k hk => ?_⟩
              cases hk
              refine ⟨uv, n', rfl, ?_⟩
              rcases Nat.eq_zero_or_pos m with h0 | h0
              · subst h0; exact .inr ⟨rfl, (hsame rfl).1.symm⟩
              · exact .inl (by omega)
            have hnew : ∀ b, v'.ownBlock = some b → b < w'.heap.size ∧ (uv.ownBlock = some b ∨ w.heap.size ≤ b) := fun b hb' => by
              exact ⟨(hlt b hb').2, hnewb b hb'⟩
            have hmono : ∀ {v : Value} {z : AV}, R ρ A w v z → R (ρ.set d' (.row v' (n' + m))) A w' v z := fun hR => hR.later (fun _ h => h) hAw (fun y _ o' ho' => by
              by_cases hy : y = d'
              · subst hy; rw [Rho.set_same] at ho'; cases ho'; exact ⟨_, hro, hle⟩
              · rw [Rho.set_other ρ _ hy] at ho'; exact ⟨o', ho', RO.le_refl o'⟩)
            have hbel : Below w0.heap.size w w' := (Below.refl _ w).grown hgr h.below.size (fun k hk => (hlt0 k hk).1)
            have h' := h.reobj (w' := w') (ob' := { ob with c := c' }) (ro' := .row v' (n' + m)) hro hle hbel hsameblk hnA hnew
              ⟨hcat1, ⟨xs ++ news, by
                show w'.ownsRow _ ob.e c'.esz _ _ _
                rw [hcat2, hesz, hoe]; exact hown, fun j x hx => by
                have hc := hcat3 j x hx
                have hxl : xs.length = n' * ei.size := hown0.1
                rw [hesz] at hc
                rw [List.getElem?_append, hxl]
                split at hc
                · rename_i hj
                  rw [if_pos hj]
                  obtain ⟨q, q1, q2, q3⟩ := hxs j x hc
                  exact ⟨q, q1, q2, hmono q3⟩
                · rename_i hj
                  rw [if_neg hj]
                  obtain ⟨q, q1, q2, q3⟩ := hR _ x hc
                  exact ⟨q, q1, q2, hmono q3⟩⟩,
                fun b hb' => by
                  refine ⟨(hlt b hb').2, fun _ hA => ?_, fun hx => absurd hx (by simp [hwr])⟩
                  rcases (hnew b hb').2 with h3 | h3
                  · exact hnA b h3 hA
                  · have := h.bound b hA; omega⟩
            have h1c : v'.oneCell' = true := by
              rcases hown.2 with ⟨rfl, _⟩ | ⟨g, cap, cur, rfl, _⟩ <;> rfl
            refine .inl ⟨v', w', hexec (by rw [r1]; exact hr), A, ρ.set d' (.row v' (n' + m)), h'.put o.dst (.own d' (n' + m) _ h1c fun o' u' len' ho' hv' => ?_)⟩
            rw [Rho.set_same] at ho'; cases ho'; cases hv'
            exact ⟨Nat.le_refl _, fun _ => rfl⟩
        · cases hx
      · rename_i p hwa hoe hesz hcont
        cases hx
        obtain ⟨hp1, hp0⟩ := hp
        have r2 : a.eval y = .slice none 0 0 := by
          unfold acont at hcont
          split at hcont <;> try (simp at hcont; done)
          · rename_i hy; exact (hy ▸ h.ev y : R ρ A w (a.eval y) _).nilsl_inv
          · split at hcont <;> simp at hcont
        refine goes_value h (val := a.eval x) (hexec ?_) (hbase ▸ h.ev x)
        obtain ⟨ro, uv, hro, hok, hval, hcase⟩ := h.row hob hp0
        have r1 := (hbase ▸ h.ev x : R ρ A w (a.eval x) _).own_inv hro hval rfl
        rw [r1, r2]
        rcases hcase with ⟨rfl, rfl⟩ | ⟨g, cap, rfl, hcap, _⟩
        · simp [Builtin.append_, run_underlying hu, sizeOf, typeInfo, hi, Builtin.lenOf, Builtin.firstCells]
        · simp [Builtin.append_, run_underlying hu, sizeOf, typeInfo, hi, Builtin.lenOf, Builtin.firstCells, hcap, storeCells]
      · cases hx
    · cases hx
  · cases hx

end
end Go.Proofs.Ytefbgdnobnemkaa.AM

namespace Go.Proofs.Ytefbgdnobnemkaa.AM
open Go Go.RowKit

section
variable {P : Program} {tab : Tab} {w0 : World} {A0 A : Nat → Prop} {ρ : Rho} {s : AState} {a : Act} {w : World} {o : Oper}

theorem und_of_tab {t : TypeId} {ti : TI} (hT : TabOk P tab) (h : tab t = some ti) : ∃ d, P.underlying t = some d := by
  obtain ⟨d, hd, _⟩ := (hT t ti h).und
  exact ⟨d, hd⟩

/-- Bytes that lie in memory, as a string. -/
theorem run_str_row {src dst e : TypeId} (hs : P.underlying src = some (.slice e)) (he : P.underlying e = some (.int .u8)) (hd : P.underlying dst = some .string) {b off n cap : Nat} {bs : List UInt8} (hn : bs.length = n) (ks : List Int) (hk : ks.length = n)
    (hkb : ∀ (i : Nat) (x : Int), ks[i]? = some x → bs[i]? = some (UInt8.ofNat x.toNat)) (hc : ∀ (i : Nat) (x : Int), ks[i]? = some x → w.cell? ⟨b, off + i, none⟩ = some (.int .u8 x)) : (convert src dst (.slice (some ⟨b, off, none⟩) n cap)).run P w = .ok (.string ⟨bs.toArray⟩) w := by
  rw [run_convert_bytes_arg w src e hs he b off n cap ks hk (fun i hi => by
    have := hc i _ (List.getElem?_eq_getElem (show i < ks.length by omega))
    rw [this, List.getD_eq_getElem?_getD, List.getElem?_eq_getElem (by omega)]; rfl) dst hd]
  congr 2
  apply ByteArray.ext
  apply Array.ext'
  rw [strOfNums_data]
  apply List.ext_getElem?
  intro i
  rcases Nat.lt_or_ge i ks.length with hi | hi
  · rw [List.getElem?_map, List.getElem?_eq_getElem hi, Option.map_some, ← hkb i _ (List.getElem?_eq_getElem hi)]
  · rw [List.getElem?_eq_none (by simpa using hi)]
    exact (List.getElem?_eq_none (by simp; omega)).symm

theorem slB_ints {bs : List UInt8} : (bs.map fun b => (b.toNat : Int)).length = bs.length ∧ (∀ (i : Nat) (x : Int), (bs.map fun b => (b.toNat : Int))[i]? = some x → bs[i]? = some (UInt8.ofNat x.toNat)) ∧
    ∀ (i : Nat) (x : Int), (bs.map fun b => (b.toNat : Int))[i]? = some x → (AV.slB bs).cell? i = some (.int .u8 x) := by
  refine ⟨by simp, fun i x hx => ?_, fun i x hx => ?_⟩
  · rw [List.getElem?_map, Option.map_eq_some_iff] at hx
    obtain ⟨b, hb, rfl⟩ := hx
    simp [hb]
  · rw [List.getElem?_map, Option.map_eq_some_iff] at hx
    obtain ⟨b, hb, rfl⟩ := hx
    simp [AV.cell?, hb]

theorem toBs_ints : ∀ {cs : List AV} {bs : List UInt8}, toBs cs = some bs → ∃ ks : List Int, ks.length = bs.length ∧ cs.length = bs.length ∧ (∀ (i : Nat) (x : Int), ks[i]? = some x → bs[i]? = some (UInt8.ofNat x.toNat)) ∧ ∀ (i : Nat) (x : Int), ks[i]? = some x → cs[i]? = some (.int .u8 x)
  | [], bs, h => by simp [toBs] at h; subst h; exact ⟨[], rfl, rfl, fun i x hx => by simp at hx, fun i x hx => by simp at hx⟩
  | c :: cs, bs, h => by
    cases c <;> try (simp [toBs] at h; done)
    rename_i k n
    cases k <;> try (simp [toBs] at h; done)
    simp only [toBs] at h
    rw [Option.map_eq_some_iff] at h
    obtain ⟨r, hr, rfl⟩ := h
    obtain ⟨ks, h1, h2, h3, h4⟩ := toBs_ints hr
    refine ⟨n :: ks, by simp [h1], by simp [h2], fun i x hx => ?_, fun i x hx => ?_⟩
    · cases i with
      | zero => simp at hx; subst hx; simp
      | succ i => simpa using h3 i x (by simpa using hx)
    · cases i with
      | zero => simp at hx; subst hx; simp
      | succ i => simpa using h4 i x (by simpa using hx)

theorem run_convert_string_bytes_any {src dst e : TypeId} (hs : P.underlying src = some .string) (hd : P.underlying dst = some (.slice e)) (he : P.underlying e = some (.int .u8)) (l : List UInt8) :
    (convert src dst (.string ⟨l.toArray⟩)).run P w = .ok (.slice (some ⟨w.heap.size, 0, none⟩) l.length (grownCap w l.length 0 e)) (Lib.bytesWorld w e ⟨l.toArray⟩) := by
  have := Lib.run_convert_string_bytes w src dst e ⟨l.toArray⟩ hs hd he
  have hsz : (ByteArray.mk l.toArray).size = l.length := by simp [ByteArray.size]
  rwa [hsz] at this

theorem ok_conv {src t : TypeId} {x : Operand} {pre : Prop} {v : AV} {u : List (Nat × Option Obj)} {n : List Nat} (hT : TabOk P tab) (ho : o.op = .convert src t x) (h : St w0 A0 A ρ s a w) (hf : ∀ d ∈ n, s.fresh d)
    (hx : aconv tab o.dst src t (s.ev x) s.obj = .val pre v u n) (hp : pre) : Goes P o a w (Sim w0 A0 (s.app o.dst v u)) := by
  have hexec : ∀ {v' : Value} {w' : World}, (convert src t (a.eval x)).run P w = .ok v' w' → (execOp a.eval o).run P w = .ok (.value v') w' := by
    intro v' w' hr
    simp [execOp, ho, hr]
  unfold aconv at hx
  split at hx
  · rename_i si ti hsi hti
    obtain ⟨ud, hud⟩ := und_of_tab hT hsi
    split at hx
    · -- numbers
      rename_i k1 k k2 m hk1 hk2 hm
      cases hx
      have r1 := (hm ▸ h.ev x : R ρ A w (a.eval x) _).int_inv
      refine goes_value h (hexec (v' := .int k m) ?_) (.int _ _)
      rw [r1]
      simp [convert, run_underlying hud, run_underlying (und_int (hT t ti hti) hk2), Conv.intToInt, wrap_inK hp]
    · -- bytes to a string
      rename_i e hk1 hk2
      have hus := und_slice (hT src si hsi) hk1
      have hut := und_str (hT t ti hti) hk2
      split at hx
      · rename_i hek
        rw [Option.map_eq_some_iff] at hek
        obtain ⟨ei, hei, hek⟩ := hek
        have hue := und_int (hT e ei hei) hek
        have closed : ∀ (c : AV) (m : Nat) (bs : List UInt8) (ks : List Int), c.rowlen = some m → R ρ A w (a.eval x) c → bs.length = m → ks.length = m → (∀ (i : Nat) (x : Int), ks[i]? = some x → bs[i]? = some (UInt8.ofNat x.toNat)) → (∀ (i : Nat) (x : Int), ks[i]? = some x → c.cell? i = some (.int .u8 x)) →
            Goes P o a w (Sim w0 A0 (s.app o.dst (.str bs) [])) := by
          intro c m bs ks hm hR hb hk hkb hkc
          refine goes_value h (hexec (v' := .string ⟨bs.toArray⟩) ?_) (.str _)
          rcases hR.row_inv hm with ⟨r1, rfl⟩ | ⟨b, off, cap, vs, r1, hA, hcap, h1, h2, h3⟩
          · rw [r1, run_convert_bytes_nil w src e hus hue 0 0 t hut]
            have : bs = [] := List.eq_nil_of_length_eq_zero hb
            subst this; rfl
          · rw [r1]
            exact run_str_row hus hue hut hb ks hk hkb (fun i x hx => by
              have hc := hkc i x hx
              rw [h1 i _ hc, (h2 i _ hc).int_inv])
        split at hx
        · rename_i hm
          cases hx
          have r1 := (hm ▸ h.ev x : R ρ A w (a.eval x) _).nilsl_inv
          refine goes_value h (hexec (v' := .string ⟨([] : List UInt8).toArray⟩) ?_) (.str _)
          rw [r1, run_convert_bytes_nil w src e hus hue 0 0 t hut]; rfl
        · rename_i bs hm
          cases hx
          obtain ⟨q1, q2, q3⟩ := slB_ints (bs := bs)
          exact closed (.slB bs) bs.length bs _ rfl (hm ▸ h.ev x) rfl q1 q2 q3
        · rename_i cs hm
          split at hx
          · rename_i bs hbs
            cases hx
            obtain ⟨ks, q1, q2, q3, q4⟩ := toBs_ints hbs
            exact closed (.slG 1 cs) bs.length bs ks (rowlen_G (by omega) (by omega)) (hm ▸ h.ev x) rfl q1 q3 q4
          · cases hx
        · rename_i d m hm
          split at hx
          · rename_i ob hob
            have own : ∀ (bs : List UInt8) (ks : List Int), ob.c.rowlen = some m → bs.length = m → ks.length = m → (∀ (i : Nat) (x : Int), ks[i]? = some x → bs[i]? = some (UInt8.ofNat x.toNat)) → (∀ (i : Nat) (x : Int), ks[i]? = some x → ob.c.cell? i = some (.int .u8 x)) →
                Goes P o a w (Sim w0 A0 (s.app o.dst (.str bs) [])) := by
              intro bs ks hrl hb hk hkb hkc
              obtain ⟨ro, uv, hro, hok, hval, hcase⟩ := h.row hob hrl
              have r1 := (hm ▸ h.ev x : R ρ A w (a.eval x) _).own_inv hro hval rfl
              refine goes_value h (hexec (v' := .string ⟨bs.toArray⟩) ?_) (.str _)
              rw [r1]
              rcases hcase with ⟨rfl, rfl⟩ | ⟨g, cap, rfl, hcap, hb', hcells⟩
              · rw [run_convert_bytes_nil w src e hus hue 0 0 t hut]
                have : bs = [] := List.eq_nil_of_length_eq_zero hb
                subst this; rfl
              · exact run_str_row hus hue hut hb ks hk hkb (fun i x hx => by
                  obtain ⟨_, v, hv, _, hR⟩ := hcells i _ (hkc i x hx)
                  rw [Nat.zero_add, hv, hR.int_inv])
            split at hx
            · rename_i bs hbs
              cases hx
              obtain ⟨q1, q2, q3⟩ := slB_ints (bs := bs)
              exact own bs _ (by rw [hbs, ← hp]; rfl) hp (by rw [q1]; exact hp) q2 (by rw [hbs]; exact q3)
            · rename_i cs hcs
              split at hx
              · rename_i bs hbs
                cases hx
                obtain ⟨ks, q1, q2, q3, q4⟩ := toBs_ints hbs
                exact own bs ks (by rw [hcs]; exact rowlen_G (by omega) (by omega)) (by omega) (by omega) q3 (by rw [hcs]; exact q4)
              · cases hx
            · cases hx
          · cases hx
        · cases hx
      · cases hx
    · -- a string to bytes
      rename_i e l hk1 hk2 hm
      have hus := und_str (hT src si hsi) hk1
      have hut := und_slice (hT t ti hti) hk2
      split at hx
      · rename_i d hek hd
        rw [Option.map_eq_some_iff] at hek
        obtain ⟨ei, hei, hek⟩ := hek
        have hue := und_int (hT e ei hei) hek
        cases hx
        have hfd := hf d (by simp)
        have r1 := (hm ▸ h.ev x : R ρ A w (a.eval x) _).str_inv
        have hsz : (ByteArray.mk l.toArray).size = l.length := by simp [ByteArray.size]
        have hbel : Below w.heap.size w (Lib.bytesWorld w e ⟨l.toArray⟩) := ⟨rfl, rfl, rfl, by rw [Lib.bytesWorld_size]; omega, fun k hk => Lib.bytesWorld_at_old w e _ k hk⟩
        have hnew := Lib.bytesWorld_at_new w e ⟨l.toArray⟩
        have hge := grownCap_ge w l.length 0 e
        have hcs : l.length ≤ (Lib.bytesCells w e ⟨l.toArray⟩).size := by simp [Lib.bytesCells]
        have h' := h.newobj hfd hbel (ob := { wr := true, app := false, c := .slB l, e := e }) (ro := .fix w.heap.size l.length (grownCap w l.length 0 e)) (fun b hb' => by cases hb'; exact ⟨Nat.le_refl _, by rw [Lib.bytesWorld_size]; omega⟩)
          ⟨rfl, hge, rfl, h.below.size, by rw [Lib.bytesWorld_size]; omega, fun _ hA => absurd (h.bound _ hA) (by omega), fun hx => (by cases hx), fun i y hy => by
            have hi : i < l.length := AV.cell?_lt hy
            refine ⟨?_, _, Lib.bytesWorld_cell w e ⟨l.toArray⟩ i (by rw [hsz]; exact hi), rfl, ?_⟩
            · simp only [World.frozen?, hnew]; simp; omega
            · simp only [AV.cell?, Option.map_eq_some_iff] at hy
              obtain ⟨b, hb, rfl⟩ := hy
              have : (⟨l.toArray⟩ : ByteArray).data.toList.getD i 0 = b := by simp [List.getD_eq_getElem?_getD, hb]
              rw [this]
              exact .int _ _⟩
        have hr := run_convert_string_bytes_any (P := P) (w := w) hus hut hue l
        refine .inl ⟨_, _, hexec (by rw [r1]; exact hr), A, ρ.set d (.fix w.heap.size l.length (grownCap w l.length 0 e)), h'.put o.dst (.own d l.length _ rfl fun o' u' len' ho' hv' => ?_)⟩
        rw [Rho.set_same] at ho'; cases ho'; cases hv'
        exact ⟨Nat.le_refl _, fun _ => rfl⟩
      · cases hx
    · cases hx
  · cases hx

end
end Go.Proofs.Ytefbgdnobnemkaa.AM

namespace Go.Proofs.Ytefbgdnobnemkaa.AM
open Go Go.RowKit

/-- No test. -/
def AOut.plain (x : AOut) : Prop := ∀ φ d, x ≠ .test φ d

theorem plain_val (p : Prop) (v : AV) (u : List (Nat × Option Obj)) (n : List Nat) : (AOut.val p v u n).plain := fun _ _ h => by cases h
theorem plain_fail : AOut.fail.plain := fun _ _ h => by cases h

theorem aread_plain (ti : TI) (pre : Prop) (c : AV) (off : Nat) : (aread ti pre c off).plain := by
  unfold aread
  (repeat' split) <;> first | exact plain_val _ _ _ _ | exact plain_fail
theorem aload_plain (ti : TI) (v : AV) (ob : Nat → Option Obj) : (aload ti v ob).plain := by
  unfold aload
  (repeat' split) <;> first | exact plain_val _ _ _ _ | exact plain_fail | apply aread_plain
theorem awrite_plain (d : Nat) (ti : TI) (pre : Prop) (o : Obj) (off : Nat) (x : AV) : (awrite d ti pre o off x).plain := by
  unfold awrite
  (repeat' split) <;> first | exact plain_val _ _ _ _ | exact plain_fail | apply aread_plain | apply aload_plain
theorem astore_plain (ti : TI) (v x : AV) (ob : Nat → Option Obj) : (astore ti v x ob).plain := by
  unfold astore
  (repeat' split) <;> first | exact plain_val _ _ _ _ | exact plain_fail | apply aread_plain | apply aload_plain | apply awrite_plain
theorem afield_plain (ti : TI) (v : AV) (f : Nat) (ob : Nat → Option Obj) : (afield ti v f ob).plain := by
  unfold afield
  (repeat' split) <;> first | exact plain_val _ _ _ _ | exact plain_fail | apply aread_plain | apply aload_plain | apply awrite_plain | apply astore_plain
theorem aindexAddr_plain (ti : TI) (esz : Nat) (v i : AV) (ob : Nat → Option Obj) : (aindexAddr ti esz v i ob).plain := by
  unfold aindexAddr
  (repeat' split) <;> first | exact plain_val _ _ _ _ | exact plain_fail | apply aread_plain | apply aload_plain | apply awrite_plain | apply astore_plain | apply afield_plain
theorem aindex_plain (ti : TI) (esz : Nat) (v i : AV) : (aindex ti esz v i).plain := by
  unfold aindex
  (repeat' split) <;> first | exact plain_val _ _ _ _ | exact plain_fail | apply aread_plain | apply aload_plain | apply awrite_plain | apply astore_plain | apply afield_plain | apply aindexAddr_plain
theorem aslice_plain (ti : TI) (esz : Nat) (v : AV) (lo hi : Option AV) (ob : Nat → Option Obj) : (aslice ti esz v lo hi ob).plain := by
  unfold aslice
  (repeat' split) <;> first | exact plain_val _ _ _ _ | exact plain_fail | apply aread_plain | apply aload_plain | apply awrite_plain | apply astore_plain | apply afield_plain | apply aindexAddr_plain | apply aindex_plain
theorem alen_plain (v : AV) : (alen v).plain := by
  unfold alen
  (repeat' split) <;> first | exact plain_val _ _ _ _ | exact plain_fail | apply aread_plain | apply aload_plain | apply awrite_plain | apply astore_plain | apply afield_plain | apply aindexAddr_plain | apply aindex_plain | apply aslice_plain
theorem alenO_plain (v : AV) (ob : Nat → Option Obj) : (alenO v ob).plain := by
  unfold alenO
  (repeat' split) <;> first | exact plain_val _ _ _ _ | exact plain_fail | apply aread_plain | apply aload_plain | apply awrite_plain | apply astore_plain | apply afield_plain | apply aindexAddr_plain | apply aindex_plain | apply aslice_plain | apply alen_plain
theorem aun_plain (op : UnOp) (x : AV) : (aun op x).plain := by
  unfold aun
  (repeat' split) <;> first | exact plain_val _ _ _ _ | exact plain_fail | apply aread_plain | apply aload_plain | apply awrite_plain | apply astore_plain | apply afield_plain | apply aindexAddr_plain | apply aindex_plain | apply aslice_plain | apply alen_plain | apply alenO_plain
theorem aappend_plain (e : TypeId) (esz bytes dst : Nat) (b x : AV) (ob : Nat → Option Obj) : (aappend e esz bytes dst b x ob).plain := by
  unfold aappend
  (repeat' split) <;> first | exact plain_val _ _ _ _ | exact plain_fail | apply aread_plain | apply aload_plain | apply awrite_plain | apply astore_plain | apply afield_plain | apply aindexAddr_plain | apply aindex_plain | apply aslice_plain | apply alen_plain | apply alenO_plain | apply aun_plain
theorem abuild_plain (tab : Tab) (t : TypeId) (parts : List (Nat × AV)) : (abuild tab t parts).plain := by
  unfold abuild
  (repeat' split) <;> first | exact plain_val _ _ _ _ | exact plain_fail | apply aread_plain | apply aload_plain | apply awrite_plain | apply astore_plain | apply afield_plain | apply aindexAddr_plain | apply aindex_plain | apply aslice_plain | apply alen_plain | apply alenO_plain | apply aun_plain | apply aappend_plain
theorem abuildSlice_plain (tab : Tab) (dst : Option Nat) (t : TypeId) (len : Nat) (parts : List (Nat × AV)) : (abuildSlice tab dst t len parts).plain := by
  unfold abuildSlice
  (repeat' split) <;> first | exact plain_val _ _ _ _ | exact plain_fail | apply aread_plain | apply aload_plain | apply awrite_plain | apply astore_plain | apply afield_plain | apply aindexAddr_plain | apply aindex_plain | apply aslice_plain | apply alen_plain | apply alenO_plain | apply aun_plain | apply aappend_plain | apply abuild_plain
theorem aconv_plain (tab : Tab) (dst : Option Nat) (src t : TypeId) (x : AV) (ob : Nat → Option Obj) : (aconv tab dst src t x ob).plain := by
  unfold aconv
  (repeat' split) <;> first | exact plain_val _ _ _ _ | exact plain_fail | apply aread_plain | apply aload_plain | apply awrite_plain | apply astore_plain | apply afield_plain | apply aindexAddr_plain | apply aindex_plain | apply aslice_plain | apply alen_plain | apply alenO_plain | apply aun_plain | apply aappend_plain | apply abuild_plain | apply abuildSlice_plain
theorem amakeSlice_plain (tab : Tab) (dst : Option Nat) (t : TypeId) (l c : AV) : (amakeSlice tab dst t l c).plain := by
  unfold amakeSlice
  (repeat' split) <;> first | exact plain_val _ _ _ _ | exact plain_fail | apply aread_plain | apply aload_plain | apply awrite_plain | apply astore_plain | apply afield_plain | apply aindexAddr_plain | apply aindex_plain | apply aslice_plain | apply alen_plain | apply alenO_plain | apply aun_plain | apply aappend_plain | apply abuild_plain | apply abuildSlice_plain | apply aconv_plain
theorem amin_plain (mx : Bool) (l : List AV) : (amin mx l).plain := by
  unfold amin
  (repeat' split) <;> first | exact plain_val _ _ _ _ | exact plain_fail | apply aread_plain | apply aload_plain | apply awrite_plain | apply astore_plain | apply afield_plain | apply aindexAddr_plain | apply aindex_plain | apply aslice_plain | apply alen_plain | apply alenO_plain | apply aun_plain | apply aappend_plain | apply abuild_plain | apply abuildSlice_plain | apply aconv_plain | apply amakeSlice_plain
theorem abuiltin_plain (tab : Tab) (dst : Option Nat) (b : Builtin) (ts : List TypeId) (args : List AV) (ob : Nat → Option Obj) : (abuiltin tab dst b ts args ob).plain := by
  unfold abuiltin
  (repeat' split) <;> first | exact plain_val _ _ _ _ | exact plain_fail | apply aread_plain | apply aload_plain | apply awrite_plain | apply astore_plain | apply afield_plain | apply aindexAddr_plain | apply aindex_plain | apply aslice_plain | apply alen_plain | apply alenO_plain | apply aun_plain | apply aappend_plain | apply abuild_plain | apply abuildSlice_plain | apply aconv_plain | apply amakeSlice_plain | apply amin_plain

section
variable {P : Program} {tab : Tab} {w0 : World} {A0 A : Nat → Prop} {ρ : Rho} {s : AState} {a : Act} {w : World} {o : Oper}

theorem ok_makeSlice {t : TypeId} {l c : Operand} {pre : Prop} {v : AV} {u : List (Nat × Option Obj)} {n : List Nat} (hT : TabOk P tab) (ho : o.op = .makeSlice t l c) (h : St w0 A0 A ρ s a w) (hf : ∀ d ∈ n, s.fresh d)
    (hx : amakeSlice tab o.dst t (s.ev l) (s.ev c) = .val pre v u n) (hp : pre) : Goes P o a w (Sim w0 A0 (s.app o.dst v u)) := by
  unfold amakeSlice at hx
  split at hx
  · rename_i ti d q m hti hd hl hc
    split at hx
    · rename_i e hk
      split at hx
      · rename_i ei hei
        split at hx
        · rename_i hek hby hsz hzero
          cases hx
          obtain ⟨rfl, hp1, hp2⟩ := hp
          have hut := und_slice (hT t ti hti) hk
          obtain ⟨i, z, hi, hs1, hs2, hs3, hs4, hs5, hs6⟩ := (hT e ei hei).info
          have r1 := (hl ▸ h.ev l : R ρ A w (a.eval l) _).int_inv
          have r2 := (hc ▸ h.ev c : R ρ A w (a.eval c) _).int_inv
          have hz := (hs6 ρ A w 0 (.int .u8 0) (by rw [hzero]; rfl)).1.int_inv
          have hzc : z.cells = #[.int .u8 0] := by
            obtain ⟨zl⟩ : ∃ zl, z.cells.toList = zl := ⟨_, rfl⟩
            rename_i hzl
            have hlen : z.cells.toList.length = 1 := by rw [Array.length_toList, hs4, hsz]
            rw [Array.getD_eq_getD_getElem?, ← Array.getElem?_toList] at hz
            apply Array.ext'
            match hh : z.cells.toList, hlen with
            | [y], _ => rw [hh] at hz; simp at hz; simp [hz]
          have hr := run_make (P := P) w t e i z hut hi hs3 .i64 .i64 q q hp1 (Int.le_refl _) (by rw [hs2, hby]; omega) (by omega)
          rw [hs1, hsz, Nat.mul_one, hzc] at hr
          have hcells : madeCells #[Value.int .u8 0] q.toNat = (List.replicate q.toNat (Value.int .u8 0)).toArray := by
            apply Array.ext'
            apply List.ext_getElem?
            intro j
            simp only [madeCells]
            rcases Nat.lt_or_ge j q.toNat with hj | hj
            · simp [hj, Nat.mod_one]
            · simp [Nat.not_lt.2 hj]
          rw [hcells] at hr
          refine goes_newrow (cells := (List.replicate q.toNat (Value.int .u8 0)).toArray) (xs := List.replicate q.toNat (.int .u8 0)) (sz := 1) h (hf d (by simp)) ?_ ⟨by simp, fun j x hx => ?_⟩ (by simp) (by simp [AV.rowlen]) rfl (fun j x hx => ?_) (by simp [AV.ments]) (by unfold maxLen; omega)
          · simp only [execOp, ho, r1, r2, Sem.run_bind, hr, Result.andThen_ok, Sem.run_pure]
          · have hj := (List.getElem?_eq_some_iff.1 hx).1
            simp at hj
            simp [hj] at hx
            subst hx
            have e1 : (List.replicate q.toNat (Value.int .u8 0)).toArray.getD j undef = .int .u8 0 := by
              simp [Array.getD_eq_getD_getElem?, hj]
            rw [e1]
            exact ⟨rfl, .int _ _⟩
          · have hj := AV.cell?_lt hx
            simp [AV.ncells] at hj
            simp [AV.cell?, hj] at hx ⊢
            exact hx
        · cases hx
      · cases hx
    · cases hx
  · cases hx

theorem op_val {eq2 : TypeId → Bool} {pre : Prop} {v : AV} {u : List (Nat × Option Obj)} {n : List Nat} (hT : TabOk P tab) (h : St w0 A0 A ρ s a w)
    (hx : aop eq2 tab o s.ev s.obj = .val pre v u n) (hp : pre) (hf : ∀ d ∈ n, s.fresh d) : Goes P o a w (Sim w0 A0 (s.app o.dst v u)) := by
  unfold aop at hx
  split at hx
  · rename_i x ho; cases hx; exact ok_move (.inl ho) h
  · rename_i x ho; cases hx; exact ok_move (.inr ho) h
  · rename_i c x y ho
    split at hx
    · rename_i hc; cases hx; exact ok_pick ho h hc
    · rename_i hc; cases hx; exact ok_pick ho h hc
    · cases hx
  · rename_i t ho
    split at hx
    · rename_i ti d hti hd
      cases hx
      exact ok_alloc hT ho hti h (hf d (by simp)) (hT t ti hti).zm
    · cases hx
  · rename_i t x ho
    split at hx
    · rename_i cs d hcs hd
      cases hx
      exact ok_box ho h (hf d (by simp)) hcs
    · cases hx
  · rename_i t parts ho; exact ok_build hT ho h hx
  · rename_i t len parts ho
    have hx0 := hx
    unfold abuildSlice at hx0
    split at hx0
    · rename_i ti d hti hd
      have hn : n = [d] := by
        split at hx0
        · split at hx0
          · split at hx0
            · split at hx0
              · cases hx0; rfl
              · cases hx0
            · cases hx0
          · cases hx0
        · cases hx0
      exact ok_buildSlice hT (fun e ei h => (hT e ei h).sz1) ho h (hf d (by simp [hn])) (hd ▸ hx)
    · cases hx0
  · rename_i t x ho
    split at hx
    · rename_i ti hti; exact ok_load hT ho h hti (hT t ti hti).pos hx hp
    · cases hx
  · rename_i t x y ho
    split at hx
    · rename_i ti hti _; exact ok_store hT ho h hti (hT t ti hti).pos hx hp
    · cases hx
  · rename_i x ho
    split at hx
    · rename_i f cs hx'; cases hx; exact ok_nilCheck ho h (.inl ⟨f, cs, hx'⟩) hx'.symm
    · rename_i c off hx'; cases hx; exact ok_nilCheck ho h (.inr (.inl ⟨c, off, hx'⟩)) hx'.symm
    · rename_i d off hx'
      split at hx
      · rename_i hb; cases hx; exact ok_nilCheck ho h (.inr (.inr ⟨d, off, hx', hb⟩)) hx'.symm
      · cases hx
    · cases hx
  · rename_i op t x y t' ho; exact ok_bin_val ho h hx hp
  · rename_i op t x ho; exact ok_un ho h hx
  · rename_i src t x ho; exact ok_conv hT ho h hf hx hp
  · rename_i f first caps ho
    split at hx
    · rename_i hfi
      cases hx
      have : first = #[] := Array.ext' (by simpa using hfi)
      subst this
      exact ok_makeFunc ho h
    · cases hx
  · rename_i t l c ho; exact ok_makeSlice hT ho h hf hx hp
  · rename_i t x lo hi ho
    split at hx
    · rename_i ti hti
      split at hx
      · rename_i hk; exact ok_slice_str hT ho h hti hk hx hp
      · rename_i e hk
        split at hx
        · rename_i ei hei; exact ok_slice_row hT ho h hti hk hei hx hp
        · cases hx
      · cases hx
    · cases hx
  · rename_i t x f ho
    split at hx
    · rename_i ti hti; exact ok_field hT ho h hti hx hp
    · cases hx
  · rename_i t x i ho
    split at hx
    · rename_i ti hti
      split at hx
      · rename_i e hk
        split at hx
        · rename_i ei hei; exact ok_indexAddr_slice hT ho h hti hk hei hx hp
        · cases hx
      · rename_i m e hk
        split at hx
        · rename_i ei hei; exact ok_indexAddr_array hT ho h hti hk hei hx hp
        · cases hx
      · cases hx
    · cases hx
  · rename_i t x i ho
    split at hx
    · rename_i ti hti
      split at hx
      · rename_i hk; exact ok_index_str hT ho h hti hk hx hp
      · rename_i m e hk
        split at hx
        · rename_i ei hei
          split at hx
          · rename_i hna; exact ok_index_array hT ho h hti hk hei hna hx hp
          · cases hx
        · cases hx
      · cases hx
    · cases hx
  · rename_i x i ho
    split at hx
    · rename_i vs hvs
      split at hx
      · rename_i v' hv; cases hx; exact ok_extract ho h hvs hv
      · cases hx
    · cases hx
  · rename_i c ho
    split at hx
    · rename_i b hc
      unfold abuiltin at hx
      split at hx
      · -- len
        rename_i t ts x xs hts hargs
        have ht : c.argTypes[0]? = some t := by rw [← Array.getElem?_toList, hts]; rfl
        have hx0 : ∃ x0, c.args[0]? = some x0 ∧ s.ev x0 = x := by
          cases hl : c.args.toList with
          | nil => rw [hl] at hargs; simp at hargs
          | cons q r => rw [hl] at hargs; simp at hargs; exact ⟨q, by rw [← Array.getElem?_toList, hl]; rfl, hargs.1⟩
        obtain ⟨x0, ha, rfl⟩ := hx0
        split at hx
        · rename_i l hk hl
          rw [Option.map_eq_some_iff] at hk
          obtain ⟨ti, hti, hk⟩ := hk
          simp only [alen, AOut.pure] at hx
          cases hx
          exact ok_len_str hT ho hc h hti hk ht ha hl
        · cases hx
        · rename_i e hk hns
          rw [Option.map_eq_some_iff] at hk
          obtain ⟨ti, hti, hk⟩ := hk
          exact ok_len_slice hT ho hc h hti hk ht ha (fun l hl => hns l hl) hx hp
        · cases hx
      · -- min
        exact ok_minmax (mx := false) ho hc h hx
      · exact ok_minmax (mx := true) ho hc h hx
      · -- append
        rename_i t t' x y hts hargs
        split at hx
        · rename_i ti d htt hti hd
          have htt : t = t' := by simpa using htt
          subst htt
          split at hx
          · rename_i e hk
            split at hx
            · rename_i ei hei
              split at hx
              · rename_i _ hby
                have hby : 1 ≤ ei.bytes := Nat.le_of_ble_eq_true hby
                have hl2 : c.args.toList.length = 2 := by have := congrArg List.length hargs; simpa using this
                obtain ⟨x0, y0, hl⟩ : ∃ x0 y0, c.args.toList = [x0, y0] := by
                  match c.args.toList, hl2 with
                  | [p, q], _ => exact ⟨p, q, rfl⟩
                rw [hl] at hargs
                simp only [List.map_cons, List.map_nil, List.cons.injEq, and_true] at hargs
                obtain ⟨rfl, rfl⟩ := hargs
                exact ok_append hT ho hc h (Array.ext' (by simpa using hts)) (Array.ext' (by simpa using hl)) hti hk hei hby hf hx hp
              · cases hx
            · cases hx
          · cases hx
        · cases hx
      · cases hx
    · cases hx
  · cases hx

theorem op_test {eq2 : TypeId → Bool} {φ : Prop} {d : Decidable φ} (hT : TabOk P tab) (heq : Eq2Ok P eq2) (h : St w0 A0 A ρ s a w)
    (hx : aop eq2 tab o s.ev s.obj = .test φ d) : Goes P o a w (Sim w0 A0 (s.app o.dst (.bool (decide φ)) [])) := by
  unfold aop at hx
  split at hx
  case h_11 op t x y t' ho =>
    refine ok_bin_test heq (isb := match (tab t).map TI.k with | some .bool => true | _ => false) (fun hb => ?_) ho h hx
    split at hb
    · rename_i hk
      rw [Option.map_eq_some_iff] at hk
      obtain ⟨ti, hti, hk⟩ := hk
      exact und_bool (hT t ti hti) hk
    · cases hb
  all_goals
    exfalso
    revert hx
    first
      | exact plain_val _ _ _ _ _ _
      | exact plain_fail _ _
      | apply abuild_plain
      | apply abuildSlice_plain
      | apply aun_plain
      | apply aconv_plain
      | apply amakeSlice_plain
      | ((repeat' split) <;> first | exact plain_val _ _ _ _ _ _ | exact plain_fail _ _ | apply aload_plain | apply astore_plain | apply afield_plain | apply aindexAddr_plain | apply aindex_plain | apply aslice_plain | apply abuiltin_plain)

end
end Go.Proofs.Ytefbgdnobnemkaa.AM

namespace Go.Proofs.Ytefbgdnobnemkaa.AM
open Go Go.RowKit

/-- It depends on the objects that its operands mention alone. -/
theorem aload_local {ti : TI} {v : AV} {ob ob' : Nat → Option Obj} (h : ∀ d ∈ v.ments, ob d = ob' d) : aload ti v ob = aload ti v ob' := by
  cases v <;> simp_all [aload, AV.ments]

theorem astore_local {ti : TI} {v x : AV} {ob ob' : Nat → Option Obj} (h : ∀ d ∈ v.ments, ob d = ob' d) : astore ti v x ob = astore ti v x ob' := by
  cases v <;> simp_all [astore, AV.ments]

theorem isBox_local {ob ob' : Nat → Option Obj} {d : Nat} (h : ob d = ob' d) : isBox ob d = isBox ob' d := by
  simp [isBox, h]

theorem afield_local {ti : TI} {v : AV} {f : Nat} {ob ob' : Nat → Option Obj} (h : ∀ d ∈ v.ments, ob d = ob' d) : afield ti v f ob = afield ti v f ob' := by
  cases v <;> simp_all [afield, AV.ments]
  rename_i d off
  simp [isBox_local (ob := ob) (ob' := ob') h]

theorem aindexAddr_local {ti : TI} {esz : Nat} {v i : AV} {ob ob' : Nat → Option Obj} (h : ∀ d ∈ v.ments, ob d = ob' d) : aindexAddr ti esz v i ob = aindexAddr ti esz v i ob' := by
  cases i <;> try rfl
  unfold aindexAddr
  generalize ti.k = k
  cases k <;> cases v <;> try rfl
  · rename_i d m
    simp only [h d (by simp [AV.ments])]
  · rename_i d off
    simp only [isBox_local (ob := ob) (ob' := ob') (h d (by simp [AV.ments]))]

theorem aslice_local {ti : TI} {esz : Nat} {v : AV} {lo hi : Option AV} {ob ob' : Nat → Option Obj} (h : ∀ d ∈ v.ments, ob d = ob' d) : aslice ti esz v lo hi ob = aslice ti esz v lo hi ob' := by
  unfold aslice
  generalize bnd lo = l
  generalize bnd hi = q
  generalize ti.k = k
  cases l <;> cases q <;> try rfl
  cases k <;> cases v <;> try rfl
  rename_i d m
  simp only [h d (by simp [AV.ments])]

theorem alenO_local {v : AV} {ob ob' : Nat → Option Obj} (h : ∀ d ∈ v.ments, ob d = ob' d) : alenO v ob = alenO v ob' := by
  cases v <;> simp_all [alenO, AV.ments]

theorem acont_local {v : AV} {ob ob' : Nat → Option Obj} (h : ∀ d ∈ v.ments, ob d = ob' d) : acont v ob = acont v ob' := by
  cases v <;> simp_all [acont, AV.ments]

theorem aappend_local {e esz bytes dst : Nat} {b x : AV} {ob ob' : Nat → Option Obj} (h : ∀ d ∈ b.ments, ob d = ob' d) (h2 : ∀ d ∈ x.ments, ob d = ob' d) : aappend e esz bytes dst b x ob = aappend e esz bytes dst b x ob' := by
  unfold aappend
  rw [acont_local h2]
  cases b <;> try rfl
  rename_i d n
  simp only [h d (by simp [AV.ments])]

theorem aconv_local {tab : Tab} {dst : Option Nat} {src t : TypeId} {x : AV} {ob ob' : Nat → Option Obj} (h : ∀ d ∈ x.ments, ob d = ob' d) : aconv tab dst src t x ob = aconv tab dst src t x ob' := by
  unfold aconv
  generalize tab src = s1
  generalize tab t = s2
  cases s1 <;> cases s2 <;> try rfl
  rename_i a b
  simp only
  generalize a.k = k1
  generalize b.k = k2
  cases k1 <;> cases k2 <;> cases x <;> try rfl
  · rename_i e d n
    rcases d with _ | _ | d <;> rfl
  · rename_i e d n
    simp only [h d (by simp [AV.ments])]

theorem abuiltin_local {tab : Tab} {dst : Option Nat} {b : Builtin} {ts : List TypeId} {args : List AV} {ob ob' : Nat → Option Obj} (h : ∀ x ∈ args, ∀ d ∈ x.ments, ob d = ob' d) : abuiltin tab dst b ts args ob = abuiltin tab dst b ts args ob' := by
  unfold abuiltin
  split
  · rename_i t _ x xs
    have e := alenO_local (h x (by simp))
    cases Option.map TI.k (tab t) with
    | none => rfl
    | some k => cases k <;> cases x <;> first | rfl | exact e
  · rfl
  · rfl
  · rename_i x y
    have e : ∀ a b c d, aappend a b c d x y ob = aappend a b c d x y ob' := fun _ _ _ _ => aappend_local (h x (by simp)) (h y (by simp))
    simp only [e]
  · rfl

/-- It depends on its operands' values, and on the objects that they mention. -/
theorem aop_local {eq2 : TypeId → Bool} {tab : Tab} {o : Oper} {ev ev' : Operand → AV} {ob ob' : Nat → Option Obj} (h1 : ∀ x ∈ o.op.operands, ev' x = ev x) (h2 : ∀ x ∈ o.op.operands, ∀ d ∈ (ev x).ments, ob' d = ob d) :
    aop eq2 tab o ev' ob' = aop eq2 tab o ev ob := by
  unfold aop
  cases ho : o.op <;> rw [ho] at h1 h2 <;> simp only [Op.operands] at h1 h2 <;> try rfl
  case move x => simp only [h1 x (by simp)]
  case assign x => simp only [h1 x (by simp)]
  case pick c x y => simp only [h1 c (by simp), h1 x (by simp), h1 y (by simp)]
  case box t x => simp only [h1 x (by simp)]
  case build t parts =>
    have e : (parts.toList.map fun p => (p.1, ev' p.2)) = parts.toList.map fun p => (p.1, ev p.2) := List.map_congr_left fun p hp => by rw [h1 p.2 (by simp; exact ⟨p.1, by simpa using hp⟩)]
    simp only [e]
  case buildSlice t len parts =>
    have e : (parts.toList.map fun p => (p.1, ev' p.2)) = parts.toList.map fun p => (p.1, ev p.2) := List.map_congr_left fun p hp => by rw [h1 p.2 (by simp; exact ⟨p.1, by simpa using hp⟩)]
    simp only [e]
  case load t x => simp only [h1 x (by simp)]; cases tab t <;> simp only [aload_local (h2 x (by simp))]
  case store t x y => simp only [h1 x (by simp), h1 y (by simp)]; cases tab t <;> cases o.dst <;> simp only [astore_local (h2 x (by simp))]
  case nilCheck x =>
    simp only [h1 x (by simp)]
    have hx := h2 x (by simp)
    cases hv : ev x <;> try rfl
    rename_i d off
    rw [hv] at hx
    simp only [isBox_local (hx d (by simp [AV.ments]))]
  case binOp op t x y t' => simp only [h1 x (by simp), h1 y (by simp)]
  case unOp op t x => simp only [h1 x (by simp)]
  case convert src t x => simp only [h1 x (by simp), aconv_local (h2 x (by simp))]
  case makeFunc fn first caps =>
    cases fn <;> try rfl
    have e : caps.toList.map ev' = caps.toList.map ev := List.map_congr_left fun p hp => h1 p (by simp at hp ⊢; exact .inr hp)
    simp only [e]
  case makeSlice t l c => simp only [h1 l (by simp), h1 c (by simp)]
  case slice t x lo hi mx =>
    cases mx <;> try rfl
    have e1 : lo.map ev' = lo.map ev := by cases lo <;> simp; exact h1 _ (by simp)
    have e2 : hi.map ev' = hi.map ev := by cases hi <;> simp; exact h1 _ (by simp)
    have e3 : ∀ ti n, aslice ti n (ev x) (lo.map ev) (hi.map ev) ob' = aslice ti n (ev x) (lo.map ev) (hi.map ev) ob := fun _ _ => aslice_local (h2 x (by simp))
    simp only [h1 x (by simp), e1, e2, e3]
  case fieldAddr t x f => simp only [h1 x (by simp), afield_local (h2 x (by simp))]
  case indexAddr t x i => simp only [h1 x (by simp), h1 i (by simp), aindexAddr_local (h2 x (by simp))]
  case index t x i => simp only [h1 x (by simp), h1 i (by simp)]
  case extract x i => simp only [h1 x (by simp)]
  case call c =>
    cases hc : c.callee with
    | value f => simp only [hc]
    | invoke r m => simp only [hc]
    | builtin b =>
      have e : c.args.toList.map ev' = c.args.toList.map ev := List.map_congr_left fun p hp => h1 p (by simp [Call.operands, hc] at hp ⊢; exact hp)
      simp only [hc, e]
      refine abuiltin_local fun x hx => ?_
      simp only [List.mem_map] at hx
      obtain ⟨p, hp, rfl⟩ := hx
      exact h2 p (by simp [Call.operands, hc] at hp ⊢; exact hp)

end Go.Proofs.Ytefbgdnobnemkaa.AM

namespace Go.Proofs.Ytefbgdnobnemkaa.AM
open Go Go.RowKit

theorem get_ments {c : AV} {i d : Nat} (h : d ∈ (c.get i).ments) : d ∈ c.ments := by
  rcases Nat.lt_or_ge i c.ncells with hi | hi
  · exact AV.cell?_ments (AV.cell?_get hi) h
  · cases c <;> simp_all [AV.get, AV.ments, AV.ncells, List.getD_eq_getElem?_getD]

theorem sub_ments {c : AV} {off k d : Nat} (h : d ∈ mentsL (c.sub off k)) : d ∈ c.ments := by
  obtain ⟨i, x, hx, hd⟩ := mentsL_of h
  simp only [AV.sub, List.getElem?_map, Option.map_eq_some_iff] at hx
  obtain ⟨j, _, rfl⟩ := hx
  exact get_ments hd

theorem cut_ments {sz : Nat} {cs : List AV} {l h : Option Nat} {d : Nat} (hd : d ∈ ((AV.slG sz cs).cut l h).ments) : d ∈ mentsL cs := by
  simp only [AV.cut, AV.ments] at hd
  obtain ⟨i, x, hx, hdx⟩ := mentsL_of hd
  have hm : x ∈ cs := by
    have hm := List.mem_of_getElem? hx
    cases l <;> cases h <;> simp only [cutL, Option.map_none, Option.map_some] at hm
    · exact hm
    · exact List.mem_of_mem_take hm
    · exact List.mem_of_mem_drop hm
    · exact List.mem_of_mem_take (List.mem_of_mem_drop hm)
  obtain ⟨j, hj⟩ := List.getElem?_of_mem hm
  exact mem_mentsL hj hdx

theorem setAt_ments {c c' : AV} {off d : Nat} {xs : List AV} (h : c.setAt off xs = some c') (hd : d ∈ c'.ments) : d ∈ c.ments ∨ d ∈ mentsL xs := by
  have key : ∀ (cs : List AV), d ∈ mentsL (setL cs off xs) → d ∈ mentsL cs ∨ d ∈ mentsL xs := by
    intro cs hd
    obtain ⟨i, x, hx, hdx⟩ := mentsL_of hd
    rw [setL_getElem?] at hx
    split at hx
    · exact .inr (mem_mentsL hx hdx)
    · exact .inl (mem_mentsL hx hdx)
  unfold AV.setAt at h
  split at h
  · cases h; simp only [AV.ments] at hd ⊢; exact key _ hd
  · cases h; simp only [AV.ments] at hd ⊢; exact key _ hd
  · cases h; simp [AV.ments] at hd
  · cases h; simp [AV.ments] at hd
  · cases h

theorem toRow_ments {k : TK} {sz d : Nat} {cells : List AV} {c : AV} (h : toRow k sz cells = some c) (hd : d ∈ c.ments) : d ∈ mentsL cells := by
  unfold toRow at h
  split at h
  · rw [Option.map_eq_some_iff] at h
    obtain ⟨ls, _, rfl⟩ := h
    simp [AV.ments] at hd
  · split at h
    · cases h
    · cases h; exact hd

theorem cellsOf_ments' {x : AV} {cs : List AV} {d : Nat} (hc : x.cellsOf = some cs) (hd : d ∈ mentsL cs) : d ∈ x.ments := by
  obtain ⟨i, y, hy, hdy⟩ := mentsL_of hd
  exact cellsOf_ments hc hy hdy

theorem cat_ments {c c2 c' : AV} {d : Nat} (h : c.cat c2 = some c') (hd : d ∈ c'.ments) : d ∈ c.ments ∨ d ∈ c2.ments := by
  unfold AV.cat at h
  split at h
  · cases h; simp [AV.ments] at hd
  · cases h; simp [AV.ments] at hd
  · split at h
    · cases h
      simp only [AV.ments] at hd ⊢
      obtain ⟨i, x, hx, hdx⟩ := mentsL_of hd
      rw [List.getElem?_append] at hx
      split at hx
      · exact .inl (mem_mentsL hx hdx)
      · exact .inr (mem_mentsL hx hdx)
    · cases h
  · cases h

theorem afill_ments {place : Nat → Option (Nat × Nat)} {d : Nat} {parts : List (Nat × AV)} {xs ys : List AV} (h : afill place xs parts = some ys) (hx : d ∉ mentsL xs) (hp : ∀ p ∈ parts, d ∉ p.2.ments) : d ∉ mentsL ys := by
  intro hd
  obtain ⟨i, y, hy, hdy⟩ := mentsL_of hd
  rcases (afill_mem parts h).2 i y hy with h1 | ⟨p, cs, j, hpm, hcs, hj⟩
  · exact hx (mem_mentsL h1 hdy)
  · exact hp p hpm (cellsOf_ments hcs hj hdy)

def NoM (d : Nat) : AOut → Prop
  | .val _ v u n => d ∉ n → d ∉ v.ments ∧ ∀ p ∈ u, p.1 ≠ d ∧ ∀ ob, p.2 = some ob → d ∉ ob.c.ments
  | _ => True

theorem NoM.fail (d : Nat) : NoM d .fail := trivial
theorem NoM.need {d : Nat} {pre : Prop} {v : AV} (h : d ∉ v.ments) : NoM d (.need pre v) := fun _ => ⟨h, fun p hp => by cases hp⟩
theorem NoM.pure {d : Nat} {v : AV} (h : d ∉ v.ments) : NoM d (.pure v) := fun _ => ⟨h, fun p hp => by cases hp⟩
theorem NoM.one {d x : Nat} {pre : Prop} {v : AV} {ob : Obj} {n : List Nat} (h : d ∉ n → d ∉ v.ments ∧ x ≠ d ∧ d ∉ ob.c.ments) : NoM d (.val pre v [(x, some ob)] n) := fun hn => ⟨(h hn).1, fun p hp => by
  simp only [List.mem_singleton] at hp
  subst hp
  exact ⟨(h hn).2.1, fun ob' ho => by cases ho; exact (h hn).2.2⟩⟩

section
variable {d : Nat} {ob : Nat → Option Obj} (hob : ∀ d' o, d' ≠ d → ob d' = some o → d ∉ o.c.ments)
 include hob

 omit hob in
theorem aread_no {ti : TI} {pre : Prop} {c : AV} {off : Nat} (h : d ∉ c.ments) : NoM d (aread ti pre c off) := by
  unfold aread
  split
  · exact .need fun hd => h (sub_ments hd)
  · exact .need fun hd => h (get_ments hd)

theorem aload_no {ti : TI} {v : AV} (h : d ∉ v.ments) : NoM d (aload ti v ob) := by
  unfold aload
  split
  · rename_i d' off
    split
    · rename_i o ho
      have := hob d' o (fun e => h (by simp [AV.ments, e])) ho
      split
      · rename_i cs hcs; rw [hcs] at this; exact aread_no this
      · exact .fail d
    · exact .fail d
  · exact aread_no (by simpa [AV.ments] using h)
  · rename_i d' n off
    split
    · rename_i o ho
      exact aread_no (hob d' o (fun e => h (by simp [AV.ments, e])) ho)
    · exact .fail d
  · exact .fail d

 omit hob in
theorem awrite_no {d' : Nat} {ti : TI} {pre : Prop} {o : Obj} {off : Nat} {x : AV} (hne : d' ≠ d) (ho : d ∉ o.c.ments) (hx : d ∉ x.ments) : NoM d (awrite d' ti pre o off x) := by
  unfold awrite
  split
  · rename_i cs _ hcs
    split
    · rename_i c' _ hset
      refine .one fun _ => ⟨by simp [AV.ments], hne, fun hd => ?_⟩
      rcases setAt_ments hset hd with h1 | h1
      · exact ho h1
      · exact hx (cellsOf_ments' hcs h1)
    · exact .fail d
  · exact .fail d

theorem astore_no {ti : TI} {v x : AV} (h : d ∉ v.ments) (hx : d ∉ x.ments) : NoM d (astore ti v x ob) := by
  unfold astore
  split
  · rename_i d' off
    have hne : d' ≠ d := fun e => h (by simp [AV.ments, e])
    split
    · rename_i o ho
      split
      · exact awrite_no hne (hob d' o hne ho) hx
      · exact .fail d
    · exact .fail d
  · rename_i d' n off
    have hne : d' ≠ d := fun e => h (by simp [AV.ments, e])
    split
    · rename_i o ho; exact awrite_no hne (hob d' o hne ho) hx
    · exact .fail d
  · exact .fail d

 omit hob in
theorem afield_no {ti : TI} {v : AV} {f : Nat} (h : d ∉ v.ments) : NoM d (afield ti v f ob) := by
  unfold afield
  split
  · split
    · split
      · exact .pure (by simpa [AV.ments] using h)
      · exact .fail d
    · exact .pure (by simpa [AV.ments] using h)
    · split
      · exact .need (by simpa [AV.ments] using h)
      · exact .fail d
    · exact .fail d
  · exact .fail d

 omit hob in
theorem aindexAddr_no {ti : TI} {esz : Nat} {v i : AV} (h : d ∉ v.ments) : NoM d (aindexAddr ti esz v i ob) := by
  unfold aindexAddr
  split
  · split
    · split
      · split
        · exact .need (by simpa [AV.ments] using h)
        · exact .fail d
      · exact .fail d
    · split
      · exact .need (by simp [AV.ments])
      · exact .fail d
    · split
      · exact .need (by simp [AV.ments])
      · exact .fail d
    · split
      · exact .need (by simpa [AV.ments] using h)
      · exact .fail d
    · split
      · exact .need (by simpa [AV.ments] using h)
      · exact .fail d
    · exact .fail d
  · exact .fail d

 omit hob in
theorem aindex_no {ti : TI} {esz : Nat} {v i : AV} (h : d ∉ v.ments) : NoM d (aindex ti esz v i) := by
  unfold aindex
  split
  · rename_i n
    split
    · exact .need (by simp [AV.ments])
    · rename_i cs _
      split
      · refine .need fun hd => h ?_
        have : d ∈ ((AV.agg cs).get n.toNat).ments := hd
        exact get_ments this
      · exact .fail d
    · exact .fail d
  · exact .fail d

theorem aslice_no {ti : TI} {esz : Nat} {v : AV} {lo hi : Option AV} (h : d ∉ v.ments) : NoM d (aslice ti esz v lo hi ob) := by
  unfold aslice
  split
  · split
    · exact .need (by simp [AV.ments])
    · split
      · exact .need (by simp [AV.ments])
      · exact .fail d
    · split
      · exact .need (by simp [AV.ments])
      · exact .fail d
    · split
      · exact .need fun hd => h (cut_ments hd)
      · exact .fail d
    · exact .need (by simp [AV.ments])
    · rename_i d' m _
      have hne : d' ≠ d := fun e => h (by simp [AV.ments, e])
      split
      · rename_i o ho
        split
        · split
          · exact .one fun _ => ⟨by simp [AV.ments], hne, hob d' o hne ho⟩
          · exact .fail d
        · exact .fail d
      · exact .fail d
    · exact .fail d
  · exact .fail d

 omit hob in
theorem alen_no {v : AV} : NoM d (alen v) := by
  unfold alen
  split <;> first | exact .pure (by simp [AV.ments]) | exact .need (by simp [AV.ments]) | exact .fail d

 omit hob in
theorem alenO_no {v : AV} : NoM d (alenO v ob) := by
  unfold alenO
  split
  · split
    · exact .need (by simp [AV.ments])
    · exact .fail d
  · exact alen_no

 omit hob in
theorem abin_no {eq2 : TypeId → Bool} {isb : Bool} {op : BinOp} {t : TypeId} {x y : AV} : NoM d (abin eq2 isb op t x y) := by
  unfold abin
  split
  · split
    · unfold aint
      split <;> first | exact .need (by simp [AV.ments]) | trivial
    · exact .fail d
  · split <;> first | exact .need (by simp [AV.ments]) | trivial
  · split <;> trivial
  · split <;> trivial
  · exact .fail d

 omit hob in
theorem aun_no {op : UnOp} {x : AV} : NoM d (aun op x) := by
  unfold aun
  split
  · exact .pure (by simp [AV.ments])
  · exact .fail d

theorem acont_no {v c : AV} {p : Prop} (h : d ∉ v.ments) (hc : acont v ob = some (p, some c)) : d ∉ c.ments := by
  unfold acont at hc
  split at hc
  · cases hc
  · cases hc; exact h
  · cases hc; exact h
  · cases hc; exact h
  · rename_i d' n
    split at hc
    · rename_i o ho
      cases hc
      exact hob d' o (fun e => h (by simp [AV.ments, e])) ho
    · cases hc
  · cases hc

theorem aappend_no {e esz bytes dst : Nat} {b x : AV} (h : d ∉ b.ments) (hx : d ∉ x.ments) : NoM d (aappend e esz bytes dst b x ob) := by
  unfold aappend
  split
  · split
    · rename_i p c hc
      split
      · exact .one fun hn => ⟨fun hd => hn (by simpa [AV.ments] using hd), fun e => hn (by simp [e]), acont_no hob hx hc⟩
      · exact .fail d
    · exact .need (by simp [AV.ments])
    · exact .fail d
  · rename_i d' n
    have hne : d' ≠ d := fun e => h (by simp [AV.ments, e])
    split
    · rename_i o ho
      split
      · rename_i p c _ _ _ hc
        split
        · rename_i c' _ hcat
          refine .one fun _ => ⟨by simpa [AV.ments] using h, hne, fun hd => ?_⟩
          rcases cat_ments hcat hd with h1 | h1
          · exact hob d' o hne ho h1
          · exact acont_no hob hx hc h1
        · exact .fail d
      · exact .need (by simpa [AV.ments] using h)
      · exact .fail d
    · exact .fail d
  · exact .fail d

 omit hob in
theorem aconv_no {tab : Tab} {dst : Option Nat} {src t : TypeId} {x : AV} : NoM d (aconv tab dst src t x ob) := by
  unfold aconv
  (repeat' split) <;> first
    | exact .fail d
    | exact .need (by simp [AV.ments])
    | exact .pure (by simp [AV.ments])
    | (refine .one fun hn => ⟨fun hd => hn (by simpa [AV.ments] using hd), fun e => hn (by simp [e]), by simp [AV.ments]⟩)

 omit hob in
theorem amakeSlice_no {tab : Tab} {dst : Option Nat} {t : TypeId} {l c : AV} : NoM d (amakeSlice tab dst t l c) := by
  unfold amakeSlice
  (repeat' split) <;> first
    | exact .fail d
    | (refine .one fun hn => ⟨fun hd => hn (by simpa [AV.ments] using hd), fun e => hn (by simp [e]), by simp [AV.ments]⟩)

 omit hob in
theorem amin_no {mx : Bool} {l : List AV} : NoM d (amin mx l) := by
  unfold amin
  (repeat' split) <;> first
    | exact .fail d
    | exact .pure (by simp [AV.ments])

theorem abuiltin_no {tab : Tab} {dst : Option Nat} {b : Builtin} {ts : List TypeId} {args : List AV} (h : ∀ x ∈ args, d ∉ x.ments) : NoM d (abuiltin tab dst b ts args ob) := by
  unfold abuiltin
  split
  · split
    · exact alen_no
    · exact .fail d
    · exact alenO_no
    · exact .fail d
  · exact amin_no
  · exact amin_no
  · rename_i x y
    split
    · split
      · split
        · split
          · exact aappend_no hob (h x (by simp)) (h y (by simp))
          · exact .fail d
        · exact .fail d
      · exact .fail d
    · exact .fail d
  · exact .fail d

 omit hob in
theorem abuild_no {tab : Tab} (hz : ∀ t ti, tab t = some ti → d ∉ mentsL ti.zero) {t : TypeId} {parts : List (Nat × AV)} (h : ∀ p ∈ parts, d ∉ p.2.ments) : NoM d (abuild tab t parts) := by
  unfold abuild
  split
  · rename_i ti hti
    split
    · split
      · rename_i cells hf; exact .pure (by simpa [AV.ments] using afill_ments hf (hz t ti hti) h)
      · exact .fail d
    · split
      · split
        · rename_i cells hf; exact .pure (by simpa [AV.ments] using afill_ments hf (hz t ti hti) h)
        · exact .fail d
      · exact .fail d
    · exact .fail d
  · exact .fail d

 omit hob in
theorem abuildSlice_no {tab : Tab} (hz : ∀ t ti, tab t = some ti → d ∉ mentsL ti.zero) {dst : Option Nat} {t : TypeId} {len : Nat} {parts : List (Nat × AV)} (h : ∀ p ∈ parts, d ∉ p.2.ments) : NoM d (abuildSlice tab dst t len parts) := by
  unfold abuildSlice
  split
  · split
    · split
      · rename_i ei hei
        split
        · rename_i cells _ _ hf
          split
          · rename_i c hrow
            refine .one fun hn => ⟨fun hd => hn (by simpa [AV.ments] using hd), fun e => hn (by simp [e]), fun hd => ?_⟩
            refine afill_ments hf (fun hm => ?_) h (toRow_ments hrow hd)
            obtain ⟨i, y, hy, hdy⟩ := mentsL_of hm
            rw [List.getElem?_map, Option.map_eq_some_iff] at hy
            obtain ⟨r, _, rfl⟩ := hy
            have : d ∈ ((AV.agg ei.zero).get (r % ei.size)).ments := hdy
            exact hz _ ei hei (by simpa [AV.ments] using get_ments this)
          · exact .fail d
        · exact .fail d
      · exact .fail d
    · exact .fail d
  · exact .fail d

theorem aop_no {eq2 : TypeId → Bool} {tab : Tab} (hz : ∀ t ti, tab t = some ti → d ∉ mentsL ti.zero) {o : Oper} {ev : Operand → AV} (hev : ∀ x, d ∉ (ev x).ments) : NoM d (aop eq2 tab o ev ob) := by
  unfold aop
  split
  · exact .pure (hev _)
  · exact .pure (hev _)
  · split
    · exact .pure (hev _)
    · exact .pure (hev _)
    · exact .fail d
  · split
    · rename_i ti d' hti hd
      exact .one fun hn => ⟨fun h => hn (by simpa [AV.ments] using h), fun e => hn (by simp [e]), by simpa [AV.ments] using hz _ ti hti⟩
    · exact .fail d
  · rename_i t x _
    split
    · rename_i cs d' hcs hd
      exact .one fun hn => ⟨fun h => hn (by simpa [AV.ments] using h), fun e => hn (by simp [e]), fun h => hev x (cellsOf_ments' hcs h)⟩
    · exact .fail d
  · refine abuild_no hz fun p hp => ?_
    simp only [List.mem_map] at hp
    obtain ⟨q, _, rfl⟩ := hp
    exact hev _
  · refine abuildSlice_no hz fun p hp => ?_
    simp only [List.mem_map] at hp
    obtain ⟨q, _, rfl⟩ := hp
    exact hev _
  · split
    · exact aload_no hob (hev _)
    · exact .fail d
  · split
    · exact astore_no hob (hev _) (hev _)
    · exact .fail d
  · rename_i x _
    have := hev x
    split
    · rename_i hx; rw [hx] at this; exact .pure this
    · rename_i hx; rw [hx] at this; exact .pure this
    · rename_i hx
      rw [hx] at this
      split
      · exact .pure this
      · exact .fail d
    · exact .fail d
  · exact abin_no
  · exact aun_no
  · exact aconv_no
  · split
    · refine .pure fun h => ?_
      simp only [AV.ments] at h
      obtain ⟨i, y, hy, hdy⟩ := mentsL_of h
      rw [List.getElem?_map, Option.map_eq_some_iff] at hy
      obtain ⟨q, _, rfl⟩ := hy
      exact hev q hdy
    · exact .fail d
  · exact amakeSlice_no
  · (repeat' split) <;> first | exact aslice_no hob (hev _) | exact .fail d
  · split
    · exact afield_no (hev _)
    · exact .fail d
  · (repeat' split) <;> first | exact aindexAddr_no (hev _) | exact .fail d
  · (repeat' split) <;> first | exact aindex_no (hev _) | exact .fail d
  · rename_i x i _
    have := hev x
    split
    · rename_i vs hx
      rw [hx] at this
      split
      · rename_i v hv
        exact .pure fun h => this (by simpa [AV.ments] using mem_mentsL hv h)
      · exact .fail d
    · exact .fail d
  · split
    · refine abuiltin_no hob fun x hx => ?_
      simp only [List.mem_map] at hx
      obtain ⟨q, _, rfl⟩ := hx
      exact hev q
    · exact .fail d
  · exact .fail d

end
end Go.Proofs.Ytefbgdnobnemkaa.AM

namespace Go.Proofs.Ytefbgdnobnemkaa.AM
open Go Go.RowKit

/-- No object. -/
def noRho : Rho := fun _ => none

/-- Called with arguments that read so the function returns what reads so; nothing that was there has turned. -/
def Pure (P : Program) (f : FuncId) (args : List AV) (r : AV) : Prop :=
  r.ments = [] ∧ (∃ fn, P.funcs[f]? = some fn ∧ (fn.name == "runtime.NumGoroutine") = false ∧ fn.body.isSome = true) ∧
  ∀ (A : Nat → Prop) (w : World) (vs : Array Value), (∀ b, A b → b < w.heap.size) → vs.size = args.length → (∀ i x, args[i]? = some x → R noRho A w (vs.getD i undef) x) →
    Calls P f vs w fun e w' => ∃ v, e = .returned v ∧ R noRho (fun b => A b ∨ (w.heap.size ≤ b ∧ b < w'.heap.size)) w' v r ∧ Below w.heap.size w w'

/-- The cells of a content, each closed. -/
def AV.mapCells (f : AV → AV) : AV → AV
  | .agg cs => .agg (cs.map f)
  | .slG sz cs => .slG sz (cs.map f)
  | c => c

/-- A value that mentions no object: what the objects hold is written out. -/
def closeV (ob : Nat → Option Obj) : Nat → AV → AV
  | 0, x => x
  | n + 1, .own d _ => match ob d with
    | some o => closeV ob n o.c
    | none => .junk
  | n + 1, .ptr d off => match ob d with
    | some o => closeV ob n (.cptr o.c off)
    | none => .junk
  | n + 1, .cptr c off => .cptr (c.mapCells (closeV ob n)) off
  | n + 1, .agg cs => .agg (cs.map (closeV ob n))
  | n + 1, .slG sz cs => .slG sz (cs.map (closeV ob n))
  | n + 1, .tup cs => .tup (cs.map (closeV ob n))
  | n + 1, .fn f cs => .fn f (cs.map (closeV ob n))
  | _ + 1, x => x

def allP (p : AV → Prop) : List AV → Prop
  | [] => True
  | x :: xs => p x ∧ allP p xs

theorem allP_get {p : AV → Prop} : ∀ {xs : List AV}, allP p xs → ∀ {i : Nat} {x : AV}, xs[i]? = some x → p x
  | [], _, i, x, h => by simp at h
  | y :: ys, h, 0, x, hx => by simp at hx; subst hx; exact h.1
  | y :: ys, h, i + 1, x, hx => allP_get h.2 (by simpa using hx)

def AV.cellList : AV → List AV
  | .agg cs => cs
  | .slG _ cs => cs
  | _ => []

/-- What closing a value asks. -/
def closeP (ob : Nat → Option Obj) : Nat → AV → Prop
  | 0, _ => True
  | n + 1, .own d m => match ob d with
    | some o => o.c.rowlen = some m ∧ closeP ob n o.c
    | none => True
  | n + 1, .ptr d off => match ob d with
    | some o => isBox ob d = true ∧ closeP ob n (.cptr o.c off)
    | none => True
  | n + 1, .cptr c _ => allP (closeP ob n) c.cellList
  | n + 1, .agg cs => allP (closeP ob n) cs
  | n + 1, .slG _ cs => allP (closeP ob n) cs
  | n + 1, .tup cs => allP (closeP ob n) cs
  | n + 1, .fn _ cs => allP (closeP ob n) cs
  | _ + 1, _ => True

/-- The objects that closing a value reads. -/
def visits (ob : Nat → Option Obj) : Nat → AV → List Nat
  | 0, _ => []
  | n + 1, .own d _ => match ob d with
    | some o => d :: visits ob n o.c
    | none => [d]
  | n + 1, .ptr d off => match ob d with
    | some o => d :: visits ob n (.cptr o.c off)
    | none => [d]
  | n + 1, .cptr c _ => c.cellList.flatMap (visits ob n)
  | n + 1, .agg cs => cs.flatMap (visits ob n)
  | n + 1, .slG _ cs => cs.flatMap (visits ob n)
  | n + 1, .tup cs => cs.flatMap (visits ob n)
  | n + 1, .fn _ cs => cs.flatMap (visits ob n)
  | _ + 1, _ => []

theorem closeV_str (ob : Nat → Option Obj) (n : Nat) (l : List UInt8) : closeV ob n (.str l) = .str l := by cases n <;> rfl
theorem closeV_int (ob : Nat → Option Obj) (n : Nat) (k : IntKind) (x : Int) : closeV ob n (.int k x) = .int k x := by cases n <;> rfl

theorem mapCells_cell? {ob : Nat → Option Obj} {n i : Nat} {c x : AV} (h : (c.mapCells (closeV ob n)).cell? i = some x) : ∃ y, c.cell? i = some y ∧ x = closeV ob n y := by
  cases c with
  | slS xs =>
    simp only [AV.mapCells, AV.cell?, Option.map_eq_some_iff] at h
    obtain ⟨a, ha, rfl⟩ := h
    exact ⟨.str a, by simp [AV.cell?, ha], (closeV_str ..).symm⟩
  | slB bs =>
    simp only [AV.mapCells, AV.cell?, Option.map_eq_some_iff] at h
    obtain ⟨a, ha, rfl⟩ := h
    exact ⟨.int .u8 a.toNat, by simp [AV.cell?, ha], (closeV_int ..).symm⟩
  | slG sz cs =>
    simp only [AV.mapCells, AV.cell?, List.getElem?_map, Option.map_eq_some_iff] at h
    obtain ⟨a, ha, rfl⟩ := h
    exact ⟨a, ha, rfl⟩
  | agg cs =>
    simp only [AV.mapCells, AV.cell?, List.getElem?_map, Option.map_eq_some_iff] at h
    obtain ⟨a, ha, rfl⟩ := h
    exact ⟨a, ha, rfl⟩
  | _ => simp [AV.mapCells, AV.cell?] at h

theorem mapCells_rowlen (f : AV → AV) (c : AV) : (c.mapCells f).rowlen = c.rowlen := by
  cases c <;> simp [AV.mapCells, AV.rowlen]

theorem cellList_of {c x : AV} {i : Nat} (h : c.cell? i = some x) : c.cellList[i]? = some x ∨ (∃ l, x = .str l) ∨ ∃ k m, x = .int k m := by
  cases c with
  | slS xs =>
    simp only [AV.cell?, Option.map_eq_some_iff] at h
    obtain ⟨a, _, rfl⟩ := h
    exact .inr (.inl ⟨a, rfl⟩)
  | slB bs =>
    simp only [AV.cell?, Option.map_eq_some_iff] at h
    obtain ⟨a, _, rfl⟩ := h
    exact .inr (.inr ⟨_, _, rfl⟩)
  | slG sz cs => exact .inl h
  | agg cs => exact .inl h
  | _ => simp [AV.cell?] at h

section
variable {P : Program} {tab : Tab} {w0 : World} {A0 A A' : Nat → Prop} {ρ : Rho} {s : AState} {a : Act} {w : World} {o : Oper}

theorem closeV_row {n : Nat} {c : AV} {m : Nat} (h : c.rowlen = some m) : closeV s.obj (n + 1) c = c.mapCells (closeV s.obj n) := by
  cases c <;> simp [AV.rowlen] at h <;> rfl

theorem close_R (h : St w0 A0 A ρ s a w) (hAA : ∀ b, A b → A' b) : ∀ (n : Nat) {v : Value} {x : AV}, R ρ A' w v x → closeP s.obj n x → (∀ d ∈ visits s.obj n x, ∀ o b, (s.obj d).isSome = true → ρ d = some o → o.blk? = some b → A' b) → R ρ A' w v (closeV s.obj n x)
  | 0, v, x, hv, _, _ => hv
  | n + 1, v, x, hv, hp, hvis => by
    have cells : ∀ {xs : List AV} {y : AV} {i : Nat}, xs[i]? = some y → allP (closeP s.obj n) xs → (∀ d ∈ xs.flatMap (visits s.obj n), ∀ o b, (s.obj d).isSome = true → ρ d = some o → o.blk? = some b → A' b) → ∀ {u : Value}, R ρ A' w u y → R ρ A' w u (closeV s.obj n y) := by
      intro xs y i hy hp hvis u hu
      exact close_R h hAA n hu (allP_get hp hy) (fun d hd => hvis d (List.mem_flatMap.2 ⟨y, List.mem_of_getElem? hy, hd⟩))
    -- a row that nobody writes, its cells closed
    have row : ∀ {c : AV} {m : Nat} {u : Value}, c.rowlen = some m → R ρ A' w u c → allP (closeP s.obj n) c.cellList → (∀ d ∈ c.cellList.flatMap (visits s.obj n), ∀ o b, (s.obj d).isSome = true → ρ d = some o → o.blk? = some b → A' b) → R ρ A' w u (c.mapCells (closeV s.obj n)) := by
      intro c m u hm hu hp hvis
      rcases hu.row_inv hm with ⟨rfl, rfl⟩ | ⟨b, off, cap, vs, rfl, hA, hcap, h1, h2, h3⟩
      · exact .row0 _ (by rw [mapCells_rowlen, hm])
      · refine .row b off m cap _ vs (by rw [mapCells_rowlen, hm]) hA hcap (fun i x hx => ?_) (fun i x hx => ?_) (fun i x hx => ?_)
        · obtain ⟨y, hy, _⟩ := mapCells_cell? hx; exact h1 i y hy
        · obtain ⟨y, hy, rfl⟩ := mapCells_cell? hx
          rcases cellList_of hy with hl | ⟨l, rfl⟩ | ⟨k, q, rfl⟩
          · exact cells hl hp hvis (h2 i y hy)
          · rw [closeV_str]; exact h2 i _ hy
          · rw [closeV_int]; exact h2 i _ hy
        · obtain ⟨y, hy, _⟩ := mapCells_cell? hx; exact h3 i y hy
    cases x with
    | own d m =>
      simp only [closeV, closeP, visits] at hp hvis ⊢
      cases hob : s.obj d with
      | none => exact .junk _
      | some ob =>
        rw [hob] at hp hvis
        simp only at hp hvis ⊢
        obtain ⟨ro, u, hro, hok, hval, hcase⟩ := h.row hob hp.1
        have hvu := hv.own_inv hro hval rfl
        have hR : R ρ A' w v ob.c := by
          rw [hvu]
          rcases hcase with ⟨rfl, rfl⟩ | ⟨g, cap, rfl, hcap, hb, hcells⟩
          · exact .row0 _ hp.1
          · refine .row g 0 m cap _ (fun i => (w.cell? ⟨g, i, none⟩).getD undef) hp.1 (hvis d (by simp) ro g (by simp [hob]) hro hb) hcap (fun i y hy => ?_) (fun i y hy => ?_) (fun i y hy => ?_)
            · obtain ⟨_, v, hv, _⟩ := hcells i y hy; rw [Nat.zero_add, hv]; rfl
            · obtain ⟨_, v, hv, _, hR⟩ := hcells i y hy; rw [hv]; exact hR.mono hAA (fun _ _ => rfl) (fun _ _ => rfl)
            · obtain ⟨_, v, hv, h1, _⟩ := hcells i y hy; rw [hv]; exact h1
        exact close_R h hAA n hR hp.2 (fun d' hd' => hvis d' (by simp [hd']))
    | ptr d off =>
      simp only [closeV, closeP, visits] at hp hvis ⊢
      cases hob : s.obj d with
      | none => exact .junk _
      | some ob =>
        rw [hob] at hp hvis
        simp only at hp hvis ⊢
        obtain ⟨b, ob', cs, hob', hcs, hro, hok⟩ := h.box hp.1
        rw [hob] at hob'; cases hob'
        have hvu := hv.ptr_inv hro
        have hR : R ρ A' w v (.cptr ob.c off) := by
          rw [hvu]
          have h0 : R ρ A' w (.pointer (some ⟨b, 0 + off, none⟩)) (.cptr ob.c off) := ?_
          · rwa [Nat.zero_add] at h0
          refine .cptr b 0 off _ (fun i => (w.cell? ⟨b, i, none⟩).getD undef) (hvis d (by simp) _ b (by simp [hob]) hro rfl) (fun i y hy => ?_) (fun i y hy => ?_) (fun i y hy => ?_)
          · obtain ⟨_, v, hv, _⟩ := hok.2.2.2.2.2 i y hy; rw [Nat.zero_add, hv]; rfl
          · obtain ⟨_, v, hv, _, hR⟩ := hok.2.2.2.2.2 i y hy; rw [hv]; exact hR.mono hAA (fun _ _ => rfl) (fun _ _ => rfl)
          · obtain ⟨_, v, hv, h1, _⟩ := hok.2.2.2.2.2 i y hy; rw [hv]; exact h1
        have := close_R h hAA n hR hp.2 (fun d' hd' => hvis d' (by simp [hd']))
        simpa using this
    | cptr c off =>
      simp only [closeV, closeP, visits] at hp hvis ⊢
      obtain ⟨b, o0, vs, rfl, hA, h1, h2, h3⟩ := hv.cptr_inv
      refine .cptr b o0 off _ vs hA (fun i x hx => ?_) (fun i x hx => ?_) (fun i x hx => ?_)
      · obtain ⟨y, hy, _⟩ := mapCells_cell? hx; exact h1 i y hy
      · obtain ⟨y, hy, rfl⟩ := mapCells_cell? hx
        rcases cellList_of hy with hl | ⟨l, rfl⟩ | ⟨k, q, rfl⟩
        · exact cells hl hp hvis (h2 i y hy)
        · rw [closeV_str]; exact h2 i _ hy
        · rw [closeV_int]; exact h2 i _ hy
      · obtain ⟨y, hy, _⟩ := mapCells_cell? hx; exact h3 i y hy
    | agg cs =>
      simp only [closeV, closeP, visits] at hp hvis ⊢
      obtain ⟨vs, rfl, hl, h1, h2⟩ := hv.agg_inv
      refine .agg vs _ (by simpa using hl) (fun i x hx => ?_) (fun i hi => h2 i (by simpa using hi))
      rw [List.getElem?_map, Option.map_eq_some_iff] at hx
      obtain ⟨y, hy, rfl⟩ := hx
      exact cells hy hp hvis (h1 i y hy)
    | tup cs =>
      simp only [closeV, closeP, visits] at hp hvis ⊢
      obtain ⟨vs, rfl, hl, h1⟩ := hv.tup_inv
      refine .tup vs _ (by simpa using hl) (fun i x hx => ?_)
      rw [List.getElem?_map, Option.map_eq_some_iff] at hx
      obtain ⟨y, hy, rfl⟩ := hx
      exact cells hy hp hvis (h1 i y hy)
    | fn f cs =>
      simp only [closeV, closeP, visits] at hp hvis ⊢
      obtain ⟨vs, rfl, hl, h1⟩ := hv.fn_inv
      refine .fn f vs _ (by simpa using hl) (fun i x hx => ?_)
      rw [List.getElem?_map, Option.map_eq_some_iff] at hx
      obtain ⟨y, hy, rfl⟩ := hx
      exact cells hy hp hvis (h1 i y hy)
    | slG sz cs =>
      simp only [closeV, closeP, visits] at hp hvis ⊢
      cases hr : (AV.slG sz cs).rowlen with
      | some m => exact row hr hv hp hvis
      | none =>
        exfalso
        cases hv <;> simp_all
    | junk => exact hv
    | int k q => exact hv
    | bool b => exact hv
    | str l => exact hv
    | nilsl => exact hv
    | nilptr => exact hv
    | slS xs => exact hv
    | slB xs => exact hv
    | eptr d m off => exact hv

end
end Go.Proofs.Ytefbgdnobnemkaa.AM

namespace Go.Proofs.Ytefbgdnobnemkaa.AM
open Go Go.RowKit

 mutual
/-- Nothing in it lies in memory. -/
def AV.flat : AV → Bool
  | .int _ _ => true
  | .bool _ => true
  | .str _ => true
  | .nilsl => true
  | .agg cs => flatL cs
  | .tup cs => flatL cs
  | _ => false
def flatL : List AV → Bool
  | [] => true
  | x :: xs => x.flat && flatL xs
end

theorem flatL_get : ∀ {xs : List AV}, flatL xs = true → ∀ {i : Nat} {x : AV}, xs[i]? = some x → x.flat = true
  | [], _, i, x, h => by simp at h
  | y :: ys, h, 0, x, hx => by simp at hx; subst hx; simp [flatL] at h; exact h.1
  | y :: ys, h, i + 1, x, hx => by simp [flatL] at h; exact flatL_get h.2 (by simpa using hx)

theorem R.flat {ρ ρ' : Rho} {A A' : Nat → Prop} {w w' : World} {v : Value} {x : AV} (h : R ρ A w v x) (hf : x.flat = true) : R ρ' A' w' v x := by
  induction h with
  | junk v => cases hf
  | int k n => exact .int k n
  | bool b => exact .bool b
  | str l => exact .str l
  | nilsl => exact .nilsl
  | nilptr => cases hf
  | row0 c h => cases c <;> first | (cases hf; done) | (simp [AV.rowlen] at h)
  | row b off n cap c vs hn => cases c <;> first | (cases hf; done) | (simp [AV.rowlen] at hn)
  | cptr => cases hf
  | agg cs xs hl h h1 ih => exact .agg cs xs hl (fun i x hx => ih i x hx (flatL_get (by simpa [AV.flat] using hf) hx)) h1
  | tup cs xs hl h ih => exact .tup cs xs hl (fun i x hx => ih i x hx (flatL_get (by simpa [AV.flat] using hf) hx))
  | fn => cases hf
  | ptr => cases hf
  | own => cases hf
  | eptr => cases hf

/-- Is the operation wanted? -/
def wantB (ops : Array Oper) (o : Oper) (s : AState) : Option Bool :=
  match o.guard with
  | none => some true
  | some (j, want) => match (ops[j]?).bind (·.dst) with
    | some d => match s.tmps.getD d .junk with
      | .bool b => some (b == want)
      | .tup [] => some false
      | _ => none
    | none => some false

structure Foot where
  men : List Nat
  wr : List Nat
  new : List Nat

/-- Operations that look at no object. -/
def plainOp : Op → Bool
  | .move _ => true
  | .assign _ => true
  | .pick _ _ _ => true
  | .box _ _ => true
  | .build _ _ => true
  | .buildSlice _ _ _ => true
  | .extract _ _ => true
  | _ => false

def opMents (o : Oper) (ev : Operand → AV) : List Nat := match plainOp o.op with
  | true => []
  | false => o.op.operands.toList.flatMap fun x => (ev x).ments

def frzO (o : Obj) : Obj := { o with wr := false }

def frz (s : AState) (L : List Nat) : List (Nat × Option Obj) := L.map fun d => (d, (s.obj d).map frzO)

def callArgs (c : Call) (caps : List AV) (ev : Operand → AV) : List AV := c.args.toList.map ev ++ caps

/-- What one operation does to a state: the value, the objects that turn, what it reads, writes, makes. -/
inductive Does (P : Program) (eq2 : TypeId → Bool) (tab : Tab) (ops : Array Oper) (o : Oper) (s : AState) : AV → List (Nat × Option Obj) → Foot → Prop
  | skip (hw : wantB ops o s = some false) : Does P eq2 tab ops o s (.tup []) [] ⟨[], [], []⟩
  | val {pre : Prop} {v : AV} {u : List (Nat × Option Obj)} {n : List Nat} (hw : wantB ops o s = some true) (hx : aop eq2 tab o s.ev s.obj = .val pre v u n) (hp : pre) (hf : ∀ d ∈ n, s.fresh d) :
      Does P eq2 tab ops o s v u ⟨opMents o s.ev, u.map (·.1), n⟩
  | test {φ : Prop} {d : Decidable φ} (hw : wantB ops o s = some true) (hx : aop eq2 tab o s.ev s.obj = .test φ d) : Does P eq2 tab ops o s (.bool (decide φ)) [] ⟨opMents o s.ev, [], []⟩
  | call {c : Call} {fop : Operand} {g : FuncId} {caps : List AV} {r : AV} (hw : wantB ops o s = some true) (ho : o.op = .call c) (hc : c.callee = .value fop) (hg : s.ev fop = .fn g caps)
      (hcl : allP (closeP s.obj 5) (callArgs c caps s.ev)) (hm : mentsL ((callArgs c caps s.ev).map (closeV s.obj 5)) = []) (hr : Pure P g ((callArgs c caps s.ev).map (closeV s.obj 5)) r) :
      Does P eq2 tab ops o s r (if r.flat then [] else frz s ((callArgs c caps s.ev).flatMap (visits s.obj 5))) ⟨opMents o s.ev ++ (callArgs c caps s.ev).flatMap (visits s.obj 5), if r.flat then [] else (callArgs c caps s.ev).flatMap (visits s.obj 5), []⟩

section
variable {P : Program} {eq2 : TypeId → Bool} {tab : Tab} {ops : Array Oper} {w0 : World} {A0 A A' : Nat → Prop} {ρ : Rho} {s s' : AState} {a : Act} {w w' : World} {o : Oper}

theorem yielded_bool {tmps : Array Value} {d j : Nat} {b : Bool} (hd : (ops[j]?).bind (·.dst) = some d) (hv : tmps.getD d undef = .bool b) : yielded ops tmps j = some b := by
  unfold yielded
  rw [hd]
  rw [Array.getD_eq_getD_getElem?] at hv
  cases hh : tmps[d]? with
  | none => rw [hh] at hv; cases hv
  | some u => rw [hh] at hv; simp only [Option.getD_some] at hv; subst hv; simp [hh]

theorem yielded_tup {tmps : Array Value} {d j : Nat} {cs : Array Value} (hd : (ops[j]?).bind (·.dst) = some d) (hv : tmps.getD d undef = .tuple cs) : yielded ops tmps j = none := by
  unfold yielded
  rw [hd]
  rw [Array.getD_eq_getD_getElem?] at hv
  cases hh : tmps[d]? with
  | none => simp [hh]
  | some u => rw [hh] at hv; simp only [Option.getD_some] at hv; subst hv; simp [hh]

theorem want_real (h : St w0 A0 A ρ s a w) {b : Bool} (hw : wantB ops o s = some b) : Region.wanted o (yielded ops a.tmps) = b := by
  unfold wantB at hw
  unfold Region.wanted
  cases hg : o.guard with
  | none => rw [hg] at hw; simpa using hw
  | some p =>
    obtain ⟨j, want⟩ := p
    rw [hg] at hw
    simp only at hw ⊢
    cases hd : (ops[j]?).bind (·.dst) with
    | none =>
      rw [hd] at hw
      have : yielded ops a.tmps j = none := by unfold yielded; rw [hd]; rfl
      rw [this]
      simp only [Option.some.injEq] at hw
      rw [← hw]; cases want <;> rfl
    | some d =>
      rw [hd] at hw
      simp only at hw
      have hR := h.tmps d
      split at hw
      · rename_i b' hb
        rw [hb] at hR
        rw [yielded_bool hd hR.bool_inv]
        simp only [Option.some.injEq] at hw
        rw [← hw]
        cases b' <;> cases want <;> rfl
      · rename_i ht
        rw [ht] at hR
        obtain ⟨cs, hcs, _⟩ := hR.tup_inv
        rw [yielded_tup hd hcs]
        simp only [Option.some.injEq] at hw
        rw [← hw]
        cases want <;> rfl
      · cases hw

/-- More blocks that nobody writes. -/
theorem St.moreA (h : St w0 A0 A ρ s a w) (hA : ∀ b, A b → A' b) (hnew : ∀ b, A' b → A b ∨ (w0.heap.size ≤ b ∧ b < w.heap.size ∧ ∀ d o, ρ d = some o → o.blk? ≠ some b)) : St w0 A0 A' ρ s a w := by
  refine ⟨h.defers, h.len, fun i => (h.tmps i).mono hA (fun _ _ => rfl) (fun _ _ => rfl), h.below, fun b hb => ?_, fun b hb => ?_, fun b hb => hA b (h.keep b hb), h.rbound, h.inj, fun d => ?_⟩
  · rcases hnew b hb with h1 | h1
    · exact h.bound b h1
    · exact h1.2.1
  · rcases hnew b hb with h1 | h1
    · exact h.orig b h1
    · exact .inr h1.1
  · have := h.objs d
    split
    · trivial
    · rename_i ob hob
      simp only [hob] at this
      obtain ⟨o, ho, hok⟩ := this
      refine ⟨o, ho, hok.later hA (fun b hb hA' => ?_) (fun _ _ => rfl) (fun _ _ => rfl) (Nat.le_refl _) (fun y _ o' ho' => ⟨o', ho', RO.le_refl o'⟩)⟩
      rcases hnew b hA' with h1 | h1
      · exact h1
      · exact absurd hb (h1.2.2 d o ho)

theorem St.updNone (h : St w0 A0 A ρ s a w) (d : Nat) : St w0 A0 A ρ (s.upd d none) a w := by
  refine ⟨h.defers, h.len, h.tmps, h.below, h.bound, h.orig, h.keep, h.rbound, h.inj, fun x => ?_⟩
  rw [AState.obj_upd]
  by_cases hx : d = x ∧ d < s.objs.length
  · rw [if_pos hx]; trivial
  · rw [if_neg hx]; exact h.objs x

theorem frz_St {s0 : AState} : ∀ (L : List Nat) {A : Nat → Prop} {s : AState}, (∀ d, (s.obj d).map frzO = (s0.obj d).map frzO) → St w0 A0 A ρ s a w →
    ∃ A', St w0 A0 A' ρ ((frz s0 L).foldl (fun s p => s.upd p.1 p.2) s) a w ∧ (∀ b, A b → A' b) ∧ ∀ b, A' b ↔ A b ∨ ∃ d ∈ L, ∃ ro, (s0.obj d).isSome = true ∧ ρ d = some ro ∧ ro.blk? = some b
  | [], A, s, _, h => ⟨A, h, fun _ h => h, fun b => ⟨.inl, fun h => h.elim id (fun ⟨d, hd, _⟩ => by cases hd)⟩⟩
  | d :: L, A, s, hs, h => by
    simp only [frz, List.map_cons, List.foldl_cons]
    cases h0 : s0.obj d with
    | none =>
      have h1 := h.updNone d
      obtain ⟨A', h2, h3, h4⟩ := frz_St (s0 := s0) L (A := A) (s := s.upd d none) (fun x => by
        rw [AState.obj_upd]
        by_cases hx : d = x ∧ d < s.objs.length
        · rw [if_pos hx, ← hx.1, h0]
        · rw [if_neg hx]; exact hs x) h1
      refine ⟨A', h2, h3, fun b => ?_⟩
      rw [h4]
      constructor
      · rintro (h5 | ⟨y, hy, r⟩)
        · exact .inl h5
        · exact .inr ⟨y, List.mem_cons_of_mem _ hy, r⟩
      · rintro (h5 | ⟨y, hy, ro, r1, r2⟩)
        · exact .inl h5
        · rcases List.mem_cons.1 hy with rfl | hy
          · rw [h0] at r1; cases r1
          · exact .inr ⟨y, hy, ro, r1, r2⟩
    | some ob0 =>
      have hsd := hs d
      rw [h0] at hsd
      simp only [Option.map_some, Option.map_eq_some_iff] at hsd
      obtain ⟨ob, hob, hfz⟩ := hsd
      obtain ⟨ro, hro, _⟩ := h.live hob
      have h1 := h.freeze hro hob
      have e : ({ ob with wr := false } : Obj) = frzO ob0 := hfz
      rw [e] at h1
      obtain ⟨A', h2, h3, h4⟩ := frz_St (s0 := s0) L (s := s.upd d (some (frzO ob0))) (fun x => by
        rw [AState.obj_upd]
        by_cases hx : d = x ∧ d < s.objs.length
        · rw [if_pos hx, ← hx.1, h0]; rfl
        · rw [if_neg hx]; exact hs x) h1
      refine ⟨A', h2, fun b hb => h3 b (.inl hb), fun b => ?_⟩
      rw [h4]
      constructor
      · rintro ((h5 | h5) | ⟨y, hy, r⟩)
        · exact .inl h5
        · exact .inr ⟨d, List.mem_cons_self, ro, by rw [h0]; rfl, hro, h5⟩
        · exact .inr ⟨y, List.mem_cons_of_mem _ hy, r⟩
      · rintro (h5 | ⟨y, hy, ro', r1, r2, r3⟩)
        · exact .inl (.inl h5)
        · rcases List.mem_cons.1 hy with rfl | hy
          · rw [hro] at r2; cases r2; exact .inl (.inr r3)
          · exact .inr ⟨y, hy, ro', r1, r2, r3⟩

theorem exec_call {c : Call} {fop : Operand} {g : FuncId} {cs : Array Value} (ho : o.op = .call c) (hc : c.callee = .value fop) (hf : a.eval fop = .func (.func g) #[] cs) (he : ∃ fn, P.funcs[g]? = some fn ∧ (fn.name == "runtime.NumGoroutine") = false ∧ fn.body.isSome = true) :
    (execOp a.eval o).run P w = .ok (.enter g (c.args.map a.eval ++ cs)) w := by
  obtain ⟨fn, h1, h2, h3⟩ := he
  have h4 : fn.body ≠ none := by cases hb : fn.body <;> simp [hb] at h3 ⊢
  have h5 : fn.name ≠ "runtime.NumGoroutine" := by simpa using h2
  simp [execOp, ho, resolve, hc, hf, Deferred.ofValue, invoke, callFunc, h1, h4, h5]

/-- The model does it. -/
theorem Does.sound {v : AV} {u : List (Nat × Option Obj)} {f : Foot} {Q : Exit → Act → World → Prop} (hT : TabOk P tab) (heq : Eq2Ok P eq2) (hd : Does P eq2 tab ops o s v u f) (h : St w0 A0 A ρ s a w) :
    if Region.wanted o (yielded ops a.tmps) then o.wp P a w (Sim w0 A0 (s.app o.dst v u)) Q else Sim w0 A0 (s.app o.dst v u) (a.put o.dst undef) w := by
  cases hd with
  | skip hw =>
    rw [want_real h hw]
    exact ⟨A, ρ, h.put o.dst (.tup #[] [] rfl (by simp))⟩
  | val hw hx hp hf =>
    rw [want_real h hw]
    exact (op_val hT h hx hp hf).wp
  | test hw hx =>
    rw [want_real h hw]
    exact (op_test hT heq h hx).wp
  | @call c fop g caps _ hw ho hc hg hcl hm hr =>
    rw [want_real h hw, if_pos rfl]
    obtain ⟨cs, hcs, hcsl, hcsR⟩ := (hg ▸ h.ev fop : R ρ A w (a.eval fop) _).fn_inv
    obtain ⟨hrm, hen, hcalls⟩ := hr
    unfold Oper.wp
    rw [exec_call ho hc hcs hen]
    generalize hL : (callArgs c caps s.ev).flatMap (visits s.obj 5) = L
    let A1 : Nat → Prop := fun b => A b ∨ ∃ d ∈ L, ∃ ro, (s.obj d).isSome = true ∧ ρ d = some ro ∧ ro.blk? = some b
    have hA1 : ∀ b, A1 b → b < w.heap.size := fun b hb => by
      rcases hb with hb | ⟨d, _, ro, _, hro, hb⟩
      · exact h.bound b hb
      · exact h.rbound d ro b hro hb
    have hargsR : ∀ i x, (callArgs c caps s.ev)[i]? = some x → R ρ A w ((c.args.map a.eval ++ cs).getD i undef) x := by
      intro i x hx
      unfold callArgs at hx
      rw [List.getElem?_append, List.length_map, Array.length_toList] at hx
      rw [Array.getD_eq_getD_getElem?, Array.getElem?_append, Array.size_map]
      split at hx
      · rename_i hi
        rw [if_pos hi]
        rw [List.getElem?_map, Option.map_eq_some_iff] at hx
        obtain ⟨q, hq, rfl⟩ := hx
        have hq' : c.args[i]? = some q := by rw [← Array.getElem?_toList]; exact hq
        rw [Array.getElem?_map, hq']
        exact h.ev q
      · rename_i hi
        rw [if_neg hi, ← Array.getD_eq_getD_getElem?]
        exact hcsR _ x hx
    have hcall := hcalls A1 w (c.args.map a.eval ++ cs) hA1 (by simp [callArgs, hcsl]) (fun i x hx => by
      rw [List.getElem?_map, Option.map_eq_some_iff] at hx
      obtain ⟨y, hy, rfl⟩ := hx
      have h1 := close_R h (A' := A1) (fun b hb => .inl hb) 5 ((hargsR i y hy).mono (fun b hb => .inl hb) (fun _ _ => rfl) (fun _ _ => rfl)) (allP_get hcl hy)
        (fun d hd o b hs hro hb => .inr ⟨d, by rw [← hL]; exact List.mem_flatMap.2 ⟨y, List.mem_of_getElem? hy, hd⟩, o, hs, hro, hb⟩)
      refine h1.mono (fun _ h => h) (fun _ _ => rfl) (fun d hd => ?_)
      have : d ∈ mentsL ((callArgs c caps s.ev).map (closeV s.obj 5)) := mem_mentsL (by rw [List.getElem?_map, hy]; rfl) hd
      rw [hm] at this
      cases this)
    refine hcall.mono fun e w' ⟨vv, he, hR, hb⟩ => ?_
    subst he
    by_cases hfl : v.flat = true
    · rw [if_pos hfl]
      exact ⟨A, ρ, (h.grow hb).put o.dst (hR.flat hfl)⟩
    · rw [if_neg hfl]
      have h1 := h.grow hb
      obtain ⟨A2, h2, h3, h4⟩ := frz_St (s0 := s) L (fun d => rfl) h1
      have h5 : St w0 A0 (fun b => A2 b ∨ (w.heap.size ≤ b ∧ b < w'.heap.size)) ρ ((frz s L).foldl (fun s p => s.upd p.1 p.2) s) a w' := h2.moreA (fun b hb => .inl hb) (fun b hb' => by
        rcases hb' with hb' | hb'
        · exact .inl hb'
        · refine .inr ⟨Nat.le_trans h.below.size hb'.1, hb'.2, fun d ro hro e => ?_⟩
          have := h.rbound d ro b hro e
          omega)
      refine ⟨_, ρ, h5.put o.dst (hR.mono (fun b hb' => ?_) (fun _ _ => rfl) (fun d hd => by rw [hrm] at hd; cases hd))⟩
      rcases hb' with hb' | hb'
      · exact .inl ((h4 b).2 hb')
      · exact .inr hb'

end
end Go.Proofs.Ytefbgdnobnemkaa.AM

namespace Go.Proofs.Ytefbgdnobnemkaa.AM
open Go Go.RowKit

def disj (a b : List Nat) : Bool := a.all fun x => !b.contains x

theorem flatMap_eq {α β : Type} {f g : α → List β} : ∀ {l : List α}, (∀ x ∈ l, f x = g x) → l.flatMap f = l.flatMap g
  | [], _ => rfl
  | y :: ys, h => by rw [List.flatMap_cons, List.flatMap_cons, h y (by simp), flatMap_eq fun x hx => h x (by simp [hx])]

theorem disj_not {a b : List Nat} (h : disj a b = true) {x : Nat} (hx : x ∈ a) : x ∉ b := by
  have := List.all_eq_true.1 h x hx
  simpa using this

def indepF (f g : Foot) : Bool := disj f.wr (g.men ++ g.wr) && disj g.wr (f.men ++ f.wr)

theorem close_local {ob ob' : Nat → Option Obj} : ∀ (n : Nat) {x : AV}, (∀ d ∈ visits ob n x, ob' d = ob d) → closeV ob' n x = closeV ob n x ∧ closeP ob' n x = closeP ob n x ∧ visits ob' n x = visits ob n x
  | 0, x, _ => ⟨rfl, rfl, rfl⟩
  | n + 1, x, h => by
    have list : ∀ {xs : List AV}, (∀ d ∈ xs.flatMap (visits ob n), ob' d = ob d) → xs.map (closeV ob' n) = xs.map (closeV ob n) ∧ allP (closeP ob' n) xs = allP (closeP ob n) xs ∧ xs.flatMap (visits ob' n) = xs.flatMap (visits ob n) := by
      intro xs
      induction xs with
      | nil => intro _; exact ⟨rfl, rfl, rfl⟩
      | cons y ys ih =>
        intro h
        obtain ⟨h1, h2, h3⟩ := close_local n (x := y) (fun d hd => h d (by simp [hd]))
        obtain ⟨i1, i2, i3⟩ := ih (fun d hd => h d (by simp only [List.flatMap_cons, List.mem_append]; exact .inr hd))
        exact ⟨by simp [h1, i1], by simp only [allP, h2, i2], by simp only [List.flatMap_cons, h3, i3]⟩
    cases x with
    | own d m =>
      have hd : ob' d = ob d := h d (by simp only [visits]; split <;> simp)
      simp only [closeV, closeP, visits, hd] at h ⊢
      cases hob : ob d with
      | none => exact ⟨rfl, rfl, rfl⟩
      | some o =>
        rw [hob] at h
        obtain ⟨h1, h2, h3⟩ := close_local n (x := o.c) (fun d' hd' => h d' (by simp [hd']))
        simp only [h1, h2, h3]
        exact ⟨trivial, trivial, trivial⟩
    | ptr d off =>
      have hd : ob' d = ob d := h d (by simp only [visits]; split <;> simp)
      simp only [closeV, closeP, visits, hd] at h ⊢
      cases hob : ob d with
      | none => exact ⟨rfl, rfl, rfl⟩
      | some o =>
        rw [hob] at h
        obtain ⟨h1, h2, h3⟩ := close_local n (x := .cptr o.c off) (fun d' hd' => h d' (by simp [hd']))
        simp only [h1, h2, h3, isBox_local hd]
        exact ⟨trivial, trivial, trivial⟩
    | cptr c off =>
      simp only [closeV, closeP, visits] at h ⊢
      obtain ⟨h1, h2, h3⟩ := list h
      refine ⟨?_, h2, h3⟩
      cases c <;> simp only [AV.mapCells, AV.cellList] at h1 ⊢ <;> simp [h1]
    | agg cs => simp only [closeV, closeP, visits] at h ⊢; obtain ⟨h1, h2, h3⟩ := list h; exact ⟨by rw [h1], h2, h3⟩
    | tup cs => simp only [closeV, closeP, visits] at h ⊢; obtain ⟨h1, h2, h3⟩ := list h; exact ⟨by rw [h1], h2, h3⟩
    | fn f cs => simp only [closeV, closeP, visits] at h ⊢; obtain ⟨h1, h2, h3⟩ := list h; exact ⟨by rw [h1], h2, h3⟩
    | slG sz cs => simp only [closeV, closeP, visits] at h ⊢; obtain ⟨h1, h2, h3⟩ := list h; exact ⟨by rw [h1], h2, h3⟩
    | _ => exact ⟨rfl, rfl, rfl⟩

section
variable {P : Program} {eq2 : TypeId → Bool} {tab : Tab} {ops : Array Oper} {w0 : World} {A0 A A' : Nat → Prop} {ρ : Rho} {s s' : AState} {a : Act} {w w' : World} {o : Oper}

theorem ev_of_looks (h : ∀ t ∈ o.looksAt ops, s'.tmps.getD t .junk = s.tmps.getD t .junk) {x : Operand} (hx : x ∈ o.op.operands) : s'.ev x = s.ev x := by
  cases x with
  | tmp t =>
    refine h t ?_
    simp only [Oper.looksAt, List.mem_append, List.mem_filterMap]
    exact .inl ⟨.tmp t, by simpa using hx, rfl⟩
  | const v => rfl
  | global g => rfl
  | func f => rfl

theorem want_of_looks (h : ∀ t ∈ o.looksAt ops, s'.tmps.getD t .junk = s.tmps.getD t .junk) : wantB ops o s' = wantB ops o s := by
  unfold wantB
  cases hg : o.guard with
  | none => rfl
  | some p =>
    obtain ⟨j, want⟩ := p
    simp only
    cases hd : (ops[j]?).bind (·.dst) with
    | none => rfl
    | some d =>
      simp only
      rw [h d (by simp only [Oper.looksAt, hg, hd, List.mem_append]; exact .inr (by simp))]

theorem aop_plain {ev ev' : Operand → AV} {ob ob' : Nat → Option Obj} (hp : plainOp o.op = true) (h1 : ∀ x ∈ o.op.operands, ev' x = ev x) : aop eq2 tab o ev' ob' = aop eq2 tab o ev ob := by
  have h2 := aop_local (eq2 := eq2) (tab := tab) (o := o) (ev := ev) (ev' := ev') (ob := ob') (ob' := ob') h1 (fun _ _ _ _ => rfl)
  rw [h2]
  unfold aop
  cases ho : o.op <;> rw [ho] at hp <;> first | rfl | cases hp

theorem aop_ments {ev ev' : Operand → AV} {ob ob' : Nat → Option Obj} (h1 : ∀ x ∈ o.op.operands, ev' x = ev x) (h2 : ∀ d ∈ opMents o ev, ob' d = ob d) : aop eq2 tab o ev' ob' = aop eq2 tab o ev ob := by
  unfold opMents at h2
  split at h2
  · rename_i hp; exact aop_plain hp h1
  · exact aop_local h1 fun x hx d hd' => h2 d (List.mem_flatMap.2 ⟨x, by simpa using hx, hd'⟩)

/-- It depends on the slots that it looks at, and on what it reads. -/
theorem Does.local {v : AV} {u : List (Nat × Option Obj)} {f : Foot} (hd : Does P eq2 tab ops o s v u f) (h1 : ∀ t ∈ o.looksAt ops, s'.tmps.getD t .junk = s.tmps.getD t .junk) (h2 : ∀ d ∈ f.men, s'.obj d = s.obj d) (h3 : ∀ d ∈ f.new, s'.fresh d) :
    Does P eq2 tab ops o s' v u f := by
  have hev : ∀ x ∈ o.op.operands, s'.ev x = s.ev x := fun x hx => ev_of_looks h1 hx
  have hm : opMents o s'.ev = opMents o s.ev := by
    unfold opMents
    split
    · rfl
    have : ∀ x ∈ o.op.operands.toList, (s'.ev x).ments = (s.ev x).ments := fun x hx => by rw [hev x (by simpa using hx)]
    exact flatMap_eq this
  cases hd with
  | skip hw => exact .skip (by rw [want_of_looks h1]; exact hw)
  | val hw hx hp hf =>
    rw [← hm]
    exact .val (by rw [want_of_looks h1]; exact hw) (by rw [aop_ments hev h2]; exact hx) hp h3
  | test hw hx =>
    rw [← hm]
    exact .test (by rw [want_of_looks h1]; exact hw) (by rw [aop_ments hev h2]; exact hx)
  | @call c fop g caps _ hw ho hc hg hcl hmm hr =>
    have hops : o.op.operands = #[fop] ++ c.args := by rw [ho]; simp [Op.operands, Call.operands, hc]
    have hg' : s'.ev fop = .fn g caps := by rw [hev fop (by rw [hops]; simp)]; exact hg
    have hargs : callArgs c caps s'.ev = callArgs c caps s.ev := by
      unfold callArgs
      congr 1
      exact List.map_congr_left fun x hx => hev x (by rw [hops]; simp at hx ⊢; exact .inr hx)
    have hvis : ∀ d ∈ (callArgs c caps s.ev).flatMap (visits s.obj 5), s'.obj d = s.obj d := fun d hd' => h2 d (by simp only [List.mem_append]; exact .inr hd')
    have each : ∀ x ∈ callArgs c caps s.ev, closeV s'.obj 5 x = closeV s.obj 5 x ∧ closeP s'.obj 5 x = closeP s.obj 5 x ∧ visits s'.obj 5 x = visits s.obj 5 x := fun x hx => close_local 5 fun d hd' => hvis d (List.mem_flatMap.2 ⟨x, hx, hd'⟩)
    have e1 : (callArgs c caps s.ev).map (closeV s'.obj 5) = (callArgs c caps s.ev).map (closeV s.obj 5) := List.map_congr_left fun x hx => (each x hx).1
    have e2 : (callArgs c caps s.ev).flatMap (visits s'.obj 5) = (callArgs c caps s.ev).flatMap (visits s.obj 5) := flatMap_eq fun x hx => (each x hx).2.2
    have e3 : allP (closeP s'.obj 5) (callArgs c caps s.ev) := by
      have : ∀ (l : List AV), (∀ x ∈ l, closeP s'.obj 5 x = closeP s.obj 5 x) → allP (closeP s.obj 5) l → allP (closeP s'.obj 5) l := by
        intro l
        induction l with
        | nil => exact fun _ h => h
        | cons y ys ih => exact fun hh h => ⟨by rw [hh y (by simp)]; exact h.1, ih (fun x hx => hh x (by simp [hx])) h.2⟩
      exact this _ (fun x hx => (each x hx).2.1) hcl
    have e4 : frz s' ((callArgs c caps s.ev).flatMap (visits s.obj 5)) = frz s ((callArgs c caps s.ev).flatMap (visits s.obj 5)) := List.map_congr_left fun d hd' => by rw [hvis d hd']
    have := Does.call (P := P) (eq2 := eq2) (tab := tab) (ops := ops) (o := o) (s := s') (r := v) (by rw [want_of_looks h1]; exact hw) ho hc hg' (by rw [hargs]; exact e3) (by rw [hargs, e1]; exact hmm) (by rw [hargs, e1]; exact hr)
    rw [hargs, e2, e4, hm] at this
    exact this

theorem fold_obj : ∀ (u : List (Nat × Option Obj)) (s : AState) {x : Nat} {ob : Obj}, (u.foldl (fun s p => s.upd p.1 p.2) s).obj x = some ob → (∃ p ∈ u, p.2 = some ob) ∨ s.obj x = some ob
  | [], s, x, ob, h => .inr h
  | p :: u, s, x, ob, h => by
    rcases fold_obj u _ h with ⟨q, hq, hq2⟩ | h1
    · exact .inl ⟨q, List.mem_cons_of_mem _ hq, hq2⟩
    · rw [AState.obj_upd] at h1
      split at h1
      · exact .inl ⟨p, List.mem_cons_self, h1⟩
      · exact .inr h1

theorem fold_tmps : ∀ (u : List (Nat × Option Obj)) (s : AState), (u.foldl (fun s p => s.upd p.1 p.2) s).tmps = s.tmps
  | [], _ => rfl
  | p :: u, s => fold_tmps u (s.upd p.1 p.2)

theorem fold_obj_other : ∀ (u : List (Nat × Option Obj)) (s : AState) {x : Nat}, x ∉ u.map (·.1) → (u.foldl (fun s p => s.upd p.1 p.2) s).obj x = s.obj x
  | [], _, _, _ => rfl
  | p :: u, s, x, h => by
    simp only [List.map_cons, List.mem_cons, not_or] at h
    rw [List.foldl_cons, fold_obj_other u _ h.2, AState.obj_upd, if_neg (fun e => h.1 e.1.symm)]

theorem app_obj {d : Option Nat} {v : AV} {u : List (Nat × Option Obj)} {x : Nat} : (s.app d v u).obj x = (u.foldl (fun s p => s.upd p.1 p.2) s).obj x := by
  unfold AState.app
  cases d <;> rfl

theorem app_tmps {d : Option Nat} {v : AV} {u : List (Nat × Option Obj)} : (s.app d v u).tmps = match d with | some d => s.tmps.set d v | none => s.tmps := by
  unfold AState.app
  cases d <;> simp [AState.put, fold_tmps]

/-- What is in no slot and in no object, and is not made, comes into none. -/
theorem Does.fresh (hz : ∀ t ti d, tab t = some ti → d ∉ mentsL ti.zero) {v : AV} {u : List (Nat × Option Obj)} {f : Foot} (hd : Does P eq2 tab ops o s v u f) {x : Nat} (hx : s.fresh x) (hn : x ∉ f.new) : (s.app o.dst v u).fresh x := by
  have key : x ∉ v.ments ∧ ∀ p ∈ u, ∀ ob, p.2 = some ob → p.1 ≠ x → x ∉ ob.c.ments := by
    cases hd with
    | skip hw => exact ⟨by simp [AV.ments, mentsL], fun p hp => by cases hp⟩
    | @val pre v u n hw hx' hp hf =>
      have := aop_no (eq2 := eq2) (tab := tab) (o := o) (ev := s.ev) (d := x) (ob := s.obj) (fun d' o hne ho => hx.2 d' o hne ho) (fun t ti ht => hz t ti x ht) (fun y => fresh_ev hx y)
      rw [hx'] at this
      obtain ⟨h1, h2⟩ := this hn
      exact ⟨h1, fun p hp ob ho _ => (h2 p hp).2 ob ho⟩
    | test hw hx' => exact ⟨by simp [AV.ments], fun p hp => by cases hp⟩
    | call hw ho hc hg hcl hm hr =>
      refine ⟨by rw [hr.1]; simp, fun p hp ob hob hne => ?_⟩
      split at hp
      · cases hp
      · simp only [frz, List.mem_map] at hp
        obtain ⟨d, _, rfl⟩ := hp
        simp only [Option.map_eq_some_iff] at hob
        obtain ⟨ob0, h0, rfl⟩ := hob
        exact hx.2 d ob0 hne h0
  refine ⟨fun i => ?_, fun d' ob hne hob => ?_⟩
  · rw [app_tmps]
    cases hdst : o.dst with
    | none => exact hx.1 i
    | some d =>
      simp only
      rw [getD_set]
      split
      · exact key.1
      · exact hx.1 i
  · rw [app_obj] at hob
    -- an update of this very object, or none
    have : ∀ (u : List (Nat × Option Obj)) (s : AState), (∀ p ∈ u, ∀ ob, p.2 = some ob → p.1 ≠ x → x ∉ ob.c.ments) → (∀ ob, s.obj d' = some ob → x ∉ ob.c.ments) → (u.foldl (fun s p => s.upd p.1 p.2) s).obj d' = some ob → x ∉ ob.c.ments := by
      intro u
      induction u with
      | nil => intro s _ h2 h3; exact h2 ob h3
      | cons p u ih =>
        intro s h1 h2 h3
        refine ih (s.upd p.1 p.2) (fun q hq => h1 q (List.mem_cons_of_mem _ hq)) (fun ob' hob' => ?_) h3
        rw [AState.obj_upd] at hob'
        split at hob'
        · rename_i he
          exact h1 p List.mem_cons_self ob' hob' (by rw [he.1]; exact hne)
        · exact h2 ob' hob'
    exact this u s key.2 (fun ob hob => hx.2 d' ob hne hob) hob

end
end Go.Proofs.Ytefbgdnobnemkaa.AM

namespace Go.Proofs.Ytefbgdnobnemkaa.AM
open Go Go.RowKit

section
variable {P : Program} {eq2 : TypeId → Bool} {tab : Tab} {ops : Array Oper} {w0 : World} {A0 : Nat → Prop} {s s' : AState} {a : Act} {w : World}

def Step (P : Program) (eq2 : TypeId → Bool) (tab : Tab) (ops : Array Oper) (o : Oper) (s : AState) (f : Foot) (s' : AState) : Prop :=
  ∃ v u, Does P eq2 tab ops o s v u f ∧ s' = s.app o.dst v u

theorem Does.wr {o : Oper} {v : AV} {u : List (Nat × Option Obj)} {f : Foot} (hd : Does P eq2 tab ops o s v u f) : ∀ d ∈ u.map (·.1), d ∈ f.wr := by
  cases hd with
  | skip => simp
  | val => exact fun d h => h
  | test => simp
  | @call c fop g caps r hw ho hc hg hcl hm hr =>
    intro d h
    by_cases hf : v.flat = true
    · simp [hf] at h
    · rw [if_neg hf] at h
      show d ∈ (if v.flat = true then [] else _)
      rw [if_neg hf]
      simp only [frz, List.map_map] at h
      obtain ⟨x, hx, rfl⟩ := List.mem_map.1 h
      exact hx

theorem foldupd_objs : ∀ (u : List (Nat × Option Obj)) (s : AState) (d : Nat) (o : Option Obj), d ∉ u.map (·.1) →
    (u.foldl (fun s p => s.upd p.1 p.2) (s.upd d o)).objs = ((u.foldl (fun s p => s.upd p.1 p.2) s).upd d o).objs
  | [], _, _, _, _ => rfl
  | p :: u, s, d, o, h => by
    simp only [List.map_cons, List.mem_cons, not_or] at h
    rw [List.foldl_cons, List.foldl_cons]
    have : (s.upd d o).upd p.1 p.2 = (s.upd p.1 p.2).upd d o := by simp [AState.upd, List.set_comm _ _ h.1]
    rw [this]
    exact foldupd_objs u _ d o h.2

theorem foldupd_comm : ∀ (u u' : List (Nat × Option Obj)) (s : AState), (∀ d ∈ u.map (·.1), d ∉ u'.map (·.1)) →
    (u'.foldl (fun s p => s.upd p.1 p.2) (u.foldl (fun s p => s.upd p.1 p.2) s)).objs = (u.foldl (fun s p => s.upd p.1 p.2) (u'.foldl (fun s p => s.upd p.1 p.2) s)).objs
  | [], _, _, _ => rfl
  | p :: u, u', s, h => by
    rw [List.foldl_cons, List.foldl_cons, foldupd_comm u u' _ fun d hd => h d (by simp only [List.map_cons, List.mem_cons]; exact .inr hd)]
    have h1 := foldupd_objs u' s p.1 p.2 (h p.1 (by simp))
    have : ∀ (u : List (Nat × Option Obj)) (s s' : AState), s.objs = s'.objs → (u.foldl (fun s p => s.upd p.1 p.2) s).objs = (u.foldl (fun s p => s.upd p.1 p.2) s').objs := by
      intro u
      induction u with
      | nil => exact fun _ _ h => h
      | cons q u ih => exact fun s s' h => ih _ _ (by simp [AState.upd, h])
    exact this u _ _ h1

theorem AState.ext {s s' : AState} (h1 : s.tmps = s'.tmps) (h2 : s.objs = s'.objs) : s = s' := by
  cases s; cases s'; simp_all

theorem app_objs {d : Option Nat} {v : AV} {u : List (Nat × Option Obj)} : (s.app d v u).objs = (u.foldl (fun s p => s.upd p.1 p.2) s).objs := by
  unfold AState.app
  cases d <;> rfl

theorem foldupd_objs_eq : ∀ (u : List (Nat × Option Obj)) (s s' : AState), s.objs = s'.objs → (u.foldl (fun s p => s.upd p.1 p.2) s).objs = (u.foldl (fun s p => s.upd p.1 p.2) s').objs := by
  intro u
  induction u with
  | nil => exact fun _ _ h => h
  | cons q u ih => exact fun s s' h => ih _ _ (by simp [AState.upd, h])

/-- Two steps that have nothing to do with one another may be turned round. -/
theorem Step.swap (hz : ∀ t ti x, tab t = some ti → x ∉ mentsL ti.zero) {oi oj : Oper} {fi fj : Foot} {s1 s2 : AState} (h1 : Step P eq2 tab ops oi s fi s1) (h2 : Step P eq2 tab ops oj s1 fj s2)
    (hap : oi.apart ops oj = true) (hin : indepF fi fj = true) (hfi : ∀ d ∈ fi.new, s.fresh d) (hfj : ∀ d ∈ fj.new, s.fresh d) (hn : disj fi.new fj.new = true) :
    ∃ s1', Step P eq2 tab ops oj s fj s1' ∧ Step P eq2 tab ops oi s1' fi s2 := by
  obtain ⟨v, u, hd, rfl⟩ := h1
  obtain ⟨v', u', hd', rfl⟩ := h2
  obtain ⟨a1, a2, a3⟩ := Oper.apart_spec hap
  simp only [indepF, Bool.and_eq_true] at hin
  have b1 : ∀ d ∈ u.map (·.1), d ∉ fj.men ∧ d ∉ fj.wr := fun d hx => by
    have := disj_not hin.1 (hd.wr d hx)
    simpa using this
  have b2 : ∀ d ∈ u'.map (·.1), d ∉ fi.men ∧ d ∉ fi.wr := fun d hx => by
    have := disj_not hin.2 (hd'.wr d hx)
    simpa using this
  have look : ∀ (o o' : Oper) (s : AState) (v : AV) (u : List (Nat × Option Obj)), (∀ d, o.dst = some d → d ∉ o'.looksAt ops) → ∀ t ∈ o'.looksAt ops, (s.app o.dst v u).tmps.getD t .junk = s.tmps.getD t .junk := by
    intro o o' s v u h t ht
    rw [app_tmps]
    cases hdst : o.dst with
    | none => rfl
    | some d =>
      simp only
      rw [getD_set]
      split
      · rename_i e; exact absurd ht (e.1 ▸ h d hdst)
      · rfl
  have obj : ∀ (o : Oper) (s : AState) (v : AV) (u : List (Nat × Option Obj)) (L : List Nat), (∀ d ∈ u.map (·.1), d ∉ L) → ∀ d ∈ L, (s.app o.dst v u).obj d = s.obj d := by
    intro o s v u L h d hdL
    rw [app_obj]
    exact fold_obj_other u s (fun hx => h d hx hdL)
  have e1 : Does P eq2 tab ops oj s v' u' fj := hd'.local (fun t ht => (look oi oj s v u a1 t ht).symm) (fun d hx => (obj oi s v u fj.men (fun d hx => (b1 d hx).1) d hx).symm) hfj
  have e2 : Does P eq2 tab ops oi (s.app oj.dst v' u') v u fi := hd.local (look oj oi s v' u' a3) (obj oj s v' u' fi.men (fun d hx => (b2 d hx).1)) (fun d hx => Does.fresh hz e1 (hfi d hx) (fun hx' => disj_not hn hx hx'))
  refine ⟨_, ⟨v', u', e1, rfl⟩, v, u, e2, AState.ext ?_ ?_⟩
  · simp only [app_tmps]
    cases hi : oi.dst with
    | none => rfl
    | some d =>
      cases hj : oj.dst with
      | none => rfl
      | some e =>
        have hne : d ≠ e := fun he => a2 d hi (he ▸ hj)
        simp only
        exact List.set_comm _ _ hne
  · rw [app_objs, app_objs]
    rw [foldupd_objs_eq u' _ _ (app_objs (s := s) (d := oi.dst) (v := v) (u := u)), foldupd_objs_eq u _ _ (app_objs (s := s) (d := oj.dst) (v := v') (u := u'))]
    exact foldupd_comm u u' s fun d hx hx' => (b1 d hx).2 (hd'.wr d hx')

inductive Run (P : Program) (eq2 : TypeId → Bool) (tab : Tab) (ops : Array Oper) : AState → List (Nat × Foot) → AState → Prop
  | nil {s : AState} : Run P eq2 tab ops s [] s
  | cons {s s1 s' : AState} {i : Nat} {o : Oper} {f : Foot} {l : List (Nat × Foot)} (ho : ops[i]? = some o) (h : Step P eq2 tab ops o s f s1) (hr : Run P eq2 tab ops s1 l s') : Run P eq2 tab ops s ((i, f) :: l) s'

/-- The order is told, or is nothing to them. -/
def apartB (ops : Array Oper) (p q : Nat × Foot) : Bool :=
  disj p.2.new q.2.new && match ops[p.1]?, ops[q.1]? with
    | some x, some y => (y.after.any fun e => Region.binds .any e && e.on == p.1) || (x.apart ops y && indepF p.2 q.2)
    | _, _ => false

theorem Step.fresh (hz : ∀ t ti x, tab t = some ti → x ∉ mentsL ti.zero) {o : Oper} {f : Foot} (h : Step P eq2 tab ops o s f s') {x : Nat} (hx : s.fresh x) (hn : x ∉ f.new) : s'.fresh x := by
  obtain ⟨v, u, hd, rfl⟩ := h
  exact Does.fresh hz hd hx hn

theorem Run.pull (hz : ∀ t ti x, tab t = some ti → x ∉ mentsL ti.zero) {i : Nat} {f : Foot} {oi : Oper} (hoi : ops[i]? = some oi) : ∀ (l1 : List (Nat × Foot)) {l2 : List (Nat × Foot)} {s s' : AState}, Run P eq2 tab ops s (l1 ++ (i, f) :: l2) s' →
    (∀ p ∈ l1, disj p.2.new f.new = true ∧ ∀ o, ops[p.1]? = some o → o.apart ops oi = true ∧ indepF p.2 f = true) → (∀ p ∈ l1, ∀ d ∈ p.2.new, s.fresh d) → l1.Pairwise (fun p q => disj p.2.new q.2.new = true) → (∀ d ∈ f.new, s.fresh d) →
    ∃ s1, Step P eq2 tab ops oi s f s1 ∧ Run P eq2 tab ops s1 (l1 ++ l2) s'
  | [], l2, s, s', h, _, _, _, _ => by
    cases h with
    | cons ho h hr =>
      rw [hoi] at ho; cases ho
      exact ⟨_, h, hr⟩
  | p :: l1, l2, s, s', h, hp, hf, hpw, hfi => by
    cases h with
    | @cons _ s1 _ j oj g _ ho h hr =>
      have hpw' := List.pairwise_cons.1 hpw
      obtain ⟨q1, q2⟩ := hp _ List.mem_cons_self
      obtain ⟨q3, q4⟩ := q2 oj ho
      obtain ⟨s2, h2, hr2⟩ := Run.pull hz hoi l1 hr (fun p hp' => hp p (List.mem_cons_of_mem _ hp')) (fun p hp' d hd => h.fresh hz (hf p (List.mem_cons_of_mem _ hp') d hd) (fun hx => disj_not (hpw'.1 p hp') hx hd)) hpw'.2
        (fun d hd => h.fresh hz (hfi d hd) (fun hx => disj_not q1 hx hd))
      obtain ⟨s1', h3, h4⟩ := Step.swap hz h h2 q3 q4 (hf _ List.mem_cons_self) hfi q1
      exact ⟨s1', h3, .cons ho h4 hr2⟩

/-- Every edge that binds goes back. -/
def backB (ops : Array Oper) : Bool := (List.range ops.size).all fun i => match ops[i]? with
  | some o => o.after.all fun e => !Region.binds .any e || Nat.blt e.on i
  | none => true

theorem back_spec (h : backB ops = true) {i : Nat} {o : Oper} (ho : ops[i]? = some o) {e : _} (he : e ∈ o.after) (hb : Region.binds .any e = true) : e.on < i := by
  have hi : i < ops.size := (Array.getElem?_eq_some_iff.1 ho).1
  have := List.all_eq_true.1 h i (by simpa using hi)
  rw [ho] at this
  have := Array.all_eq_true_iff_forall_mem.1 this e he
  simp only [hb, Bool.not_true, Bool.false_or, Nat.blt_eq] at this
  exact this

theorem Step.wpOp (hT : TabOk P tab) (heq : Eq2Ok P eq2) {i : Nat} {o : Oper} (ho : ops[i]? = some o) {f : Foot} (h : Step P eq2 tab ops o s f s') (hs : Sim w0 A0 s a w) {K : Act → World → Prop} (hK : ∀ a w, Sim w0 A0 s' a w → K a w) {Q : Exit → Act → World → Prop} : wpOp P ops Q i K a w := by
  obtain ⟨v, u, hd, rfl⟩ := h
  obtain ⟨A, ρ, hs⟩ := hs
  have := hd.sound (Q := Q) hT heq hs
  unfold Go.wpOp
  rw [ho]
  simp only
  split
  · rename_i hw
    rw [if_pos hw] at this
    exact .inl (Oper.wp_mono hK this)
  · rename_i hw
    rw [if_neg hw] at this
    exact hK _ _ this

theorem any_order (hT : TabOk P tab) (heq : Eq2Ok P eq2) (hz : ∀ t ti x, tab t = some ti → x ∉ mentsL ti.zero) (hback : backB ops = true) {Q : Exit → Act → World → Prop} (hQ : ∀ a w, Sim w0 A0 s' a w → Q .normal a w) :
    ∀ (fuel : Nat) (l : List (Nat × Foot)) (listed : Array Bool) (s : AState) (a : Act) (w : World), l.length ≤ fuel → listed.size = ops.size → (∀ i, listed.getD i true = false ↔ i ∈ l.map (·.1)) →
      l.Pairwise (fun p q => p.1 < q.1) → l.Pairwise (fun p q => apartB ops p q = true) → (∀ p ∈ l, ∀ d ∈ p.2.new, s.fresh d) → Run P eq2 tab ops s l s' → Sim w0 A0 s a w → wpAny P .any ops Q fuel listed a w := by
  intro fuel
  induction fuel with
  | zero =>
    intro l listed s a w hl hsz hli hlt hap hfr hr hs
    have : l = [] := by cases l <;> simp at hl ⊢
    subst this
    cases hr
    refine ⟨?_, hQ _ _ hs⟩
    unfold Region.ready
    rw [List.filter_eq_nil_iff]
    intro i hi
    have : listed.getD i true = true := by
      cases hh : listed.getD i true with
      | true => rfl
      | false => exact absurd ((hli i).1 hh) (by simp)
    simp only [this]; simp
  | succ fuel ih =>
    intro l listed s a w hl hsz hli hlt hap hfr hr hs
    refine ⟨fun h0 => ?_, fun i hi => ?_⟩
    · cases l with
      | nil => cases hr; exact hQ _ _ hs
      | cons p l =>
        exfalso
        obtain ⟨i, f⟩ := p
        cases hr with
        | cons ho h hr =>
          rename_i s1 o
          have : i ∈ Region.ready .any ops listed := by
            rw [mem_ready]
            refine ⟨(hli i).2 (by simp), o, ho, fun e he hb => ?_⟩
            have h1 := back_spec hback ho he hb
            have h2 : e.on < listed.size := by
              have := (Array.getElem?_eq_some_iff.1 ho).1
              omega
            cases hh : listed.getD e.on true with
            | true => simp [h2] at hh ⊢; exact hh
            | false =>
              have := (hli e.on).1 hh
              simp only [List.map_cons, List.mem_cons] at this
              rcases this with h3 | h3
              · omega
              · obtain ⟨q, hq, h4⟩ := List.mem_map.1 h3
                have := (List.pairwise_cons.1 hlt).1 q hq
                simp only at this
                omega
          rw [h0] at this
          cases this
    · obtain ⟨h1, oi, ho, hall⟩ := mem_ready.1 hi
      obtain ⟨⟨i', f⟩, hp, hpe⟩ := List.mem_map.1 ((hli i).1 h1)
      simp only at hpe
      subst hpe
      obtain ⟨l1, l2, rfl⟩ := List.append_of_mem hp
      have hap1 := List.pairwise_append.1 hap
      have hlt1 := List.pairwise_append.1 hlt
      have hap2 := List.pairwise_cons.1 hap1.2.1
      have hlt2 := List.pairwise_cons.1 hlt1.2.1
      have hsplit : ∀ {p q : Nat × Foot}, apartB ops p q = true → disj p.2.new q.2.new = true := fun h => by
        unfold apartB at h
        rw [Bool.and_eq_true] at h
        exact h.1
      obtain ⟨s1, hst, hrun⟩ := Run.pull hz ho l1 hr (fun p hp => by
          have h2 := hap1.2.2 p hp (i', f) (by simp)
          refine ⟨hsplit h2, fun o hop => ?_⟩
          unfold apartB at h2
          rw [Bool.and_eq_true] at h2
          have h3 := h2.2
          rw [hop, ho] at h3
          simp only [Bool.or_eq_true, Bool.and_eq_true] at h3
          rcases h3 with h3 | h3
          · exfalso
            obtain ⟨e, he, hb⟩ := Array.any_eq_true'.1 h3
            simp only [Bool.and_eq_true, beq_iff_eq] at hb
            have h4 := hall e he hb.1
            rw [hb.2] at h4
            have h5 : listed.getD p.1 true = false := (hli p.1).2 (List.mem_map.2 ⟨p, by simp [hp], rfl⟩)
            have h6 : p.1 < listed.size := by rw [hsz]; exact (Array.getElem?_eq_some_iff.1 hop).1
            simp [h6] at h4 h5
            rw [h4] at h5; cases h5
          · exact h3)
        (fun p hp => hfr p (by simp [hp])) (hap1.1.imp hsplit) (hfr (i', f) (by simp))
      refine Step.wpOp hT heq ho hst hs fun a' w' hs' => ih (l1 ++ l2) (listed.setIfInBounds i' true) s1 a' w' ?_ (by simpa using hsz) ?_ ?_ ?_ ?_ hrun hs'
      · simp at hl ⊢; omega
      · intro j
        by_cases hij : i' = j
        · subst hij
          have h6 : i' < listed.size := by rw [hsz]; exact (Array.getElem?_eq_some_iff.1 ho).1
          have : (listed.setIfInBounds i' true).getD i' true = true := by simp [h6]
          rw [this]
          constructor
          · intro h; cases h
          · intro h
            exfalso
            rw [List.map_append, List.mem_append] at h
            rcases h with h | h
            · obtain ⟨q, hq, h4⟩ := List.mem_map.1 h
              have := hlt1.2.2 q hq (i', f) (by simp)
              simp only at this
              omega
            · obtain ⟨q, hq, h4⟩ := List.mem_map.1 h
              have := hlt2.1 q hq
              simp only at this
              omega
        · rw [getD_set_ne true hij, hli j]
          simp only [List.map_append, List.map_cons, List.mem_append, List.mem_cons]
          constructor
          · rintro (h | h | h)
            · exact .inl h
            · exact absurd h.symm hij
            · exact .inr h
          · rintro (h | h)
            · exact .inl h
            · exact .inr (.inr h)
      · exact List.pairwise_append.2 ⟨hlt1.1, hlt2.2, fun p hp q hq => hlt1.2.2 p hp q (List.mem_cons_of_mem _ hq)⟩
      · exact List.pairwise_append.2 ⟨hap1.1, hap2.2, fun p hp q hq => hap1.2.2 p hp q (List.mem_cons_of_mem _ hq)⟩
      · intro p hp d hd
        rw [List.mem_append] at hp
        refine hst.fresh hz (hfr p (by rw [List.mem_append, List.mem_cons]; rcases hp with h | h; exact .inl h; exact .inr (.inr h)) d hd) (fun hx => ?_)
        rcases hp with h | h
        · exact disj_not (hsplit (hap1.2.2 p h (i', f) (by simp))) hd hx
        · exact disj_not (hsplit (hap2.1 p h)) hx hd

end
end Go.Proofs.Ytefbgdnobnemkaa.AM
