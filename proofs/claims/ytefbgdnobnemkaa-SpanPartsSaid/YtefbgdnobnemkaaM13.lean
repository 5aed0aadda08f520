/-
  Each operation of the model does what the abstract machine says: stores.
-/
import Derived.Test.YtefbgdnobnemkaaM12
namespace Go.Proofs.Ytefbgdnobnemkaa.AM
open Go Go.RowKit

section
variable {P : Program} {tab : Tab} {w0 : World} {A0 A : Nat → Prop} {ρ : Rho} {s : AState} {a : Act} {w : World} {o : Oper}

/-- Cells written into an object of the running call. -/
theorem goes_write {t d g off : Nat} {x y : Operand} {ti : TI} {ob : Obj} {ro : RO} {cs : List AV} {c' : AV} (hT : TabOk P tab) (h1 : tab t = some ti) (ho : o.op = .store t x y) (h : St w0 A0 A ρ s a w)
    (hob : s.obj d = some ob) (hro : ρ d = some ro) (hg : ro.blk? = some g) (hv : a.eval x = .pointer (some ⟨g, off, none⟩)) (hwr : ob.wr = true)
    (hcells : ∀ i x, ob.c.cell? i = some x → w.frozen? ⟨g, i, none⟩ = false ∧ ∃ v, w.cell? ⟨g, i, none⟩ = some v ∧ v.oneCell' = true ∧ R ρ A w v x)
    (hc : (s.ev y).cellsOf = some cs) (hsz : cs.length = ti.size) (hset : ob.c.setAt off cs = some c') (hl : off + cs.length ≤ ob.c.ncells) (hb : ∀ bs, ob.c = .slB bs → ∀ n, cs = [.int .u8 n] → 0 ≤ n ∧ n ≤ 255) :
    Goes P o a w (Sim w0 A0 (s.app o.dst .junk [(d, some { ob with c := c' })])) := by
  obtain ⟨hv1, hv2⟩ := (h.ev y).cells hc
  obtain ⟨hset1, hset2, hset3⟩ := setAt_cell? hset hl hb
  obtain ⟨ro', hro', hok⟩ := h.live hob
  rw [hro] at hro'; cases hro'
  have hin : ∀ j, j < (a.eval y).cells.toList.length → ∃ v, w.cell? ⟨g, off + j, none⟩ = some v ∧ w.frozen? ⟨g, off + j, none⟩ = false := fun j hj => by
    have hj' : j < cs.length := by simpa [hv1] using hj
    obtain ⟨hf, v, hv, _⟩ := hcells _ _ (AV.cell?_get (show off + j < ob.c.ncells by omega))
    exact ⟨v, hv, hf⟩
  have hrun : (storeCells ⟨g, off, none⟩ (a.eval y).cells.toList 0).run P w = .ok () (w.setCells g (off + 0) (a.eval y).cells.toList) := by
    refine run_storeCells_cells g off _ 0 w (fun j hj => ?_) (fun j hj => ?_) (fun v hv => ?_)
    · obtain ⟨v, hv, _⟩ := hin j hj; rw [Nat.add_zero, hv]; rfl
    · obtain ⟨v, _, hf⟩ := hin j hj; rw [Nat.add_zero]; exact hf
    · obtain ⟨j, hj⟩ := List.getElem?_of_mem hv
      have hj2 := (List.getElem?_eq_some_iff.1 hj).1
      have := (hv2 j _ (List.getElem?_eq_getElem (show j < cs.length by simpa [hv1] using hj2))).1
      have e : (a.eval y).cells.getD j undef = v := by
        rw [Array.getD_eq_getD_getElem?, ← Array.getElem?_toList, hj]; rfl
      rwa [e] at this
  rw [Nat.add_zero] at hrun
  generalize hvs : (a.eval y).cells.toList = vs at hrun hin
  have hvl : vs.length = cs.length := by rw [← hvs, Array.length_toList, hv1]
  have hvR : ∀ j z, cs[j]? = some z → ∃ v, vs[j]? = some v ∧ v.oneCell' = true ∧ R ρ A w v z := fun j z hz => by
    obtain ⟨p1, p2⟩ := hv2 j z hz
    have hj := (List.getElem?_eq_some_iff.1 hz).1
    refine ⟨_, ?_, p1, p2⟩
    rw [← hvs, Array.getElem?_toList, Array.getD_eq_getD_getElem?, Array.getElem?_eq_getElem (by omega)]; rfl
  have hge : w0.heap.size ≤ g ∧ g < w.heap.size ∧ ¬ A g := by
    cases ro with
    | box b => cases hg; exact ⟨hok.2.1, hok.2.2.1, hok.2.2.2.1 hwr⟩
    | fix b n cap => cases hg; exact ⟨hok.2.2.2.1, hok.2.2.2.2.1, hok.2.2.2.2.2.1 hwr⟩
    | row u n =>
      obtain ⟨q0, ⟨us, q1, q2⟩, q3⟩ := hok
      obtain ⟨q4, q5, q6⟩ := q3 g hg
      refine ⟨?_, q4, q5 hwr⟩
      rcases q1.2 with ⟨rfl, _⟩ | ⟨g', cap, cur, rfl, q7, _⟩
      · cases hg
      · cases hg; exact q7
  -- the cells behind the store
  have hafter : ∀ i z, c'.cell? i = some z → (w.setCells g off vs).frozen? ⟨g, i, none⟩ = false ∧ ∃ v, (w.setCells g off vs).cell? ⟨g, i, none⟩ = some v ∧ v.oneCell' = true ∧ R ρ A w v z := by
    intro i z hz
    have hz' := hset3 i z hz
    rw [World.frozen?_setCells]
    by_cases hi : off ≤ i ∧ i < off + cs.length
    · rw [if_pos hi] at hz'
      obtain ⟨v, p1, p2, p3⟩ := hvR _ _ hz'
      obtain ⟨_, _, hf⟩ := hin (i - off) (by rw [hvl]; omega)
      rw [show off + (i - off) = i by omega] at hf
      refine ⟨hf, v, ?_, p2, p3⟩
      have hlt : i - off < vs.length := by omega
      have := World.cell?_setCells_in g vs off w (fun j hj => by obtain ⟨v, hv, _⟩ := hin j hj; rw [hv]; rfl) (i - off) hlt
      rw [show off + (i - off) = i by omega] at this
      rw [this, ← p1, List.getElem?_eq_getElem hlt]
    · rw [if_neg hi] at hz'
      obtain ⟨hf, v, p1, p2, p3⟩ := hcells i z hz'
      refine ⟨hf, v, ?_, p2, p3⟩
      rw [World.cell?_setCells_out g vs off w _ (fun _ _ => by simp only []; omega)]
      exact p1
  have hAw : ∀ b, A b → (w.setCells g off vs).heap[b]? = w.heap[b]? := fun b hb' => heap_setCells_other g vs off w b (fun e => hge.2.2 (e ▸ hb'))
  have hmono : ∀ {v : Value} {z : AV}, R ρ A w v z → R (ρ.set d ro) A (w.setCells g off vs) v z := fun hR => hR.later (fun _ h => h) hAw (fun y _ o' ho' => by
    by_cases hy : y = d
    · subst hy; rw [Rho.set_same] at ho'; cases ho'; exact ⟨ro, hro, RO.le_refl ro⟩
    · rw [Rho.set_other ρ ro hy] at ho'; exact ⟨o', ho', RO.le_refl o'⟩)
  have hok' : ObjOk (ρ.set d ro) A w0.heap.size (w.setCells g off vs) { ob with c := c' } ro := by
    cases ro with
    | box b =>
      cases hg
      obtain ⟨q0, q1, q2, q3, q4, q5⟩ := hok
      refine ⟨hset1.trans q0, q1, by rw [size_setCells]; exact q2, q3, q4, fun i z hz => ?_⟩
      obtain ⟨hf, v, p1, p2, p3⟩ := hafter i z hz
      exact ⟨hf, v, p1, p2, hmono p3⟩
    | fix b n cap =>
      cases hg
      obtain ⟨q9, q0, q00, q1, q2, q3, q4, q5⟩ := hok
      refine ⟨q9, q0, hset1.trans q00, q1, by rw [size_setCells]; exact q2, q3, q4, fun i z hz => ?_⟩
      obtain ⟨hf, v, p1, p2, p3⟩ := hafter i z hz
      exact ⟨hf, v, p1, p2, hmono p3⟩
    | row u n =>
      obtain ⟨q0, ⟨us, q1, q2⟩, q3⟩ := hok
      rcases q1.2 with ⟨rfl, _⟩ | ⟨g', cap, cur, rfl, q7, q8, q9, q10, q11, q12⟩
      · cases hg
      · have eg : g = g' := by simpa [RO.blk?, Value.ownBlock] using hg.symm
        subst eg
        have hh := heap_setCells_same g vs off w q8
        refine ⟨hset1.trans q0, ⟨(setA cur off vs).toList.take (n * ob.c.esz), ⟨?_, .inr ⟨g, cap, _, rfl, q7, hh, q9, q10, ?_, ?_⟩⟩, fun i z hz => ?_⟩, fun b hb' => ?_⟩
        · show _ = n * c'.esz
          rw [hset2, List.length_take, Array.length_toList, setA_size, q11]
          exact Nat.min_eq_left (Nat.mul_le_mul_right _ q9)
        · show _ = cap * c'.esz
          rw [setA_size, hset2]; exact q11
        · show _ = List.take _ _
          rw [hset2]
        · obtain ⟨hf, v, p1, p2, p3⟩ := hafter i z hz
          refine ⟨v, ?_, p2, hmono p3⟩
          have hi : i < n * ob.c.esz := by
            have hz' := hset3 i z hz
            have hlt : i < ob.c.ncells := by
              by_cases hi : off ≤ i ∧ i < off + cs.length
              · omega
              · rw [if_neg hi] at hz'; exact AV.cell?_lt hz'
            obtain ⟨v2, p4, _⟩ := q2 i _ (AV.cell?_get hlt)
            rw [← q1.1]; exact (List.getElem?_eq_some_iff.1 p4).1
          rw [List.getElem?_take_of_lt hi, Array.getElem?_toList]
          simp only [World.cell?, hh] at p1
          simpa using p1
        · obtain ⟨q4, q5, q6⟩ := q3 b hb'
          exact ⟨by rw [size_setCells]; exact q4, q5, q6⟩
  have h' := h.reobj hro (RO.le_refl ro) (below_setCells hge.1 vs off w) (fun k _ hk => heap_setCells_other g vs off w k (fun e => hk (by rw [hg, e]))) (fun b hb' => by rw [hg] at hb'; cases hb'; exact hge.2.2)
    (fun b hb' => ⟨by rw [size_setCells]; exact h.rbound d ro b hro hb', .inl hb'⟩) hok'
  refine .inr ⟨w.setCells g off vs, ?_, A, _, h'.put o.dst (.junk _)⟩
  have hsz2 : ¬ (a.eval y).cells.size ≠ ti.size := by rw [hv1, hsz]; simp
  simp only [execOp, ho, Instr.storeAt, hv, Instr.sureAddr, pure_bind, storeVar, Sem.run_bind, run_sizeOf' (hT t ti h1), Result.andThen_ok, if_neg hsz2, hvs, hrun, Sem.run_pure]

theorem ok_store {t : TypeId} {x y : Operand} {ti : TI} {pre : Prop} {v : AV} {u : List (Nat × Option Obj)} {n : List Nat} (hT : TabOk P tab) (ho : o.op = .store t x y) (h : St w0 A0 A ρ s a w)
    (h1 : tab t = some ti) (hz : 0 < ti.size) (hx : astore ti (s.ev x) (s.ev y) s.obj = .val pre v u n) (hp : pre) : Goes P o a w (Sim w0 A0 (s.app o.dst v u)) := by
  unfold astore at hx
  split at hx
  · rename_i d off hm
    split at hx
    · rename_i ob hob
      split at hx
      · rename_i cs0 hcs0
        unfold awrite at hx
        split at hx
        · rename_i cs hwr hcs
          split at hx
          · rename_i c' hl hset
            cases hx
            obtain ⟨b, ob', cs', hob', hcs', hro, hok⟩ := h.box (d := d) (by simp [isBox, hob, hcs0])
            rw [hob] at hob'; cases hob'
            have r1 := R.ptr_inv (hm ▸ h.ev x : R ρ A w (a.eval x) _) hro
            exact goes_write hT h1 ho h hob hro rfl r1 hwr hok.2.2.2.2.2 hcs (by simpa using hl) hset hp.2.1 (fun bs hb => by rw [hcs0] at hb; cases hb)
          · cases hx
        · cases hx
      · cases hx
    · cases hx
  · rename_i d m off hm
    split at hx
    · rename_i ob hob
      unfold awrite at hx
      split at hx
      · rename_i cs hwr hcs
        split at hx
        · rename_i c' hl hset
          cases hx
          have hl : cs.length = ti.size := by simpa using hl
          have hm0 : 0 < m := by
            obtain ⟨h3, h4, _⟩ := hp
            cases hc : ob.c <;> rw [hc] at h3 h4 <;> simp [AV.rowlen, AV.ncells] at h3 h4
            · omega
            · omega
            · rename_i sz cs2
              have h3 : (AV.slG sz cs2).rowlen = some m := by simpa [AV.rowlen] using h3
              obtain ⟨h5, h6⟩ := rowlen_G_inv h3
              rcases Nat.eq_zero_or_pos m with h0 | h0
              · subst h0; omega
              · exact h0
          obtain ⟨ro, g, hro, hok, hb, r1, _, hcells⟩ := h.eptr hob hp.1 hm0 (hm ▸ h.ev x : R ρ A w (a.eval x) _)
          refine goes_write hT h1 ho h hob hro hb r1 hwr hcells hcs hl hset hp.2.1 (fun bs hb m2 hm2 => ?_)
          have := hp.2.2
          rw [hb, hm2] at this
          exact this
        · cases hx
      · cases hx
    · cases hx
  · cases hx

end
end Go.Proofs.Ytefbgdnobnemkaa.AM
