/-
  Each operation of the model does what the abstract machine says: composites and rows that are made, appended to, converted.
-/
import Derived.Test.YtefbgdnobnemkaaM13
import Derived.Laws.Tables
namespace Go.Proofs.Ytefbgdnobnemkaa.AM
open Go Go.RowKit

theorem fold_setA (v : Array Value) (cells : Array Value) (off : Nat) : v.zipIdx.foldl (fun cs (c, j) => cs.setIfInBounds (off + j) c) cells = setA cells off v.toList := by
  rw [← Array.foldl_toList, Array.toList_zipIdx]
  suffices h : ∀ (l : List Value) (k : Nat) (cells : Array Value), (l.zipIdx k).foldl (fun cs (x : Value × Nat) => cs.setIfInBounds (off + x.2) x.1) cells = setA cells (off + k) l by
    exact h v.toList 0 cells
  intro l
  induction l with
  | nil => intro k cells; rfl
  | cons c l ih => intro k cells; rw [List.zipIdx_cons, List.foldl_cons, ih]; rfl

/-- Cells read as a list. -/
def RA (ρ : Rho) (A : Nat → Prop) (w : World) (cs : Array Value) (xs : List AV) : Prop :=
  cs.size = xs.length ∧ ∀ i x, xs[i]? = some x → (cs.getD i undef).oneCell' = true ∧ R ρ A w (cs.getD i undef) x

theorem getD_setA' (vs : List Value) (cs : Array Value) (o i : Nat) : (setA cs o vs).getD i undef = if o ≤ i ∧ i < o + vs.length ∧ i < cs.size then (vs[i - o]?).getD undef else cs.getD i undef := by
  have e : cs.toList.length = cs.size := Array.length_toList
  rw [Array.getD_eq_getD_getElem?, ← Array.getElem?_toList, setA_toList, setL_getElem?, e]
  split
  · rfl
  · rw [Array.getElem?_toList, Array.getD_eq_getD_getElem?]

theorem RA.setA {ρ : Rho} {A : Nat → Prop} {w : World} {cs : Array Value} {xs : List AV} (h : RA ρ A w cs xs) {v : Array Value} {ys : List AV} (hv : RA ρ A w v ys) (o : Nat) : RA ρ A w (setA cs o v.toList) (setL xs o ys) := by
  refine ⟨by rw [setA_size, setL_length]; exact h.1, fun i x hx => ?_⟩
  rw [setL_getElem?] at hx
  rw [getD_setA', Array.length_toList, hv.1, h.1]
  by_cases hi : o ≤ i ∧ i < o + ys.length ∧ i < xs.length
  · rw [if_pos hi] at hx ⊢
    have := hv.2 _ _ hx
    rwa [Array.getD_eq_getD_getElem?, ← Array.getElem?_toList] at this
  · rw [if_neg hi] at hx ⊢
    exact h.2 i x hx

theorem cellsOf_RA {ρ : Rho} {A : Nat → Prop} {w : World} {v : Value} {x : AV} {cs : List AV} (h : R ρ A w v x) (hc : x.cellsOf = some cs) : RA ρ A w v.cells cs := h.cells hc

section
variable {P : Program} {tab : Tab} {w0 : World} {A0 A : Nat → Prop} {ρ : Rho} {s : AState} {a : Act} {w : World} {o : Oper}

theorem fill_R {place place' : Nat → Option (Nat × Nat)} (hpl : ∀ i q, place' i = some q → place i = some q) (h : St w0 A0 A ρ s a w) : ∀ (parts : List (Nat × Operand)) {cells : Array Value} {xs ys : List AV}, RA ρ A w cells xs →
    afill place' xs (parts.map fun p => (p.1, s.ev p.2)) = some ys → ∃ cells', Instr.fill place cells (parts.map fun p => (p.1, a.eval p.2)) = some cells' ∧ RA ρ A w cells' ys
  | [], cells, xs, ys, hr, hf => by
    simp [afill] at hf
    subst hf
    exact ⟨cells, rfl, hr⟩
  | (i, x) :: rest, cells, xs, ys, hr, hf => by
    simp only [List.map_cons, afill] at hf
    split at hf
    · rename_i off sz cs hp hc
      split at hf
      · rename_i hl hle
        have hl : cs.length = sz := by simpa using hl
        have hle : off + cs.length ≤ xs.length := Nat.le_of_ble_eq_true hle
        have hv := cellsOf_RA (h.ev x) hc
        obtain ⟨cells', h1, h2⟩ := fill_R hpl h rest (hr.setA hv off) hf
        refine ⟨cells', ?_, h2⟩
        have e1 : ((a.eval x).cells.size ≠ sz || off + (a.eval x).cells.size > cells.size) = false := by
          rw [hv.1, hl, hr.1]
          simp; omega
        simp only [List.map_cons, Instr.fill, hpl _ _ hp]
        rw [e1]
        simp only [Bool.false_eq_true, if_false, fold_setA]
        exact h1
      · cases hf
    · cases hf

theorem zero_RA {t : TypeId} {ti : TI} (h : TIok P t ti) : ∃ i z, P.info? t = some i ∧ i.zero = some z ∧ i.size = ti.size ∧ RA ρ A w z.cells ti.zero := by
  obtain ⟨i, z, hi, hs1, hs2, hs3, hs4, hs5, hs6⟩ := h.info
  exact ⟨i, z, hi, hs3, hs1, by rw [hs4, hs5], fun j x hx => ⟨(hs6 ρ A w j x hx).2, (hs6 ρ A w j x hx).1⟩⟩

theorem goes_agg (h : St w0 A0 A ρ s a w) {cells : Array Value} {xs : List AV} (hr : (execOp a.eval o).run P w = .ok (.value (.agg cells)) w) (hx : RA ρ A w cells xs) : Goes P o a w (Sim w0 A0 (s.app o.dst (.agg xs) [])) := by
  refine goes_value h hr (.agg cells xs hx.1 (fun i x hi => (hx.2 i x hi).2) (fun i hi => ?_))
  exact (hx.2 i _ (List.getElem?_eq_getElem hi)).1

theorem ok_build {t : TypeId} {parts : Array (Nat × Operand)} {pre : Prop} {v : AV} {u : List (Nat × Option Obj)} {n : List Nat} (hT : TabOk P tab) (ho : o.op = .build t parts) (h : St w0 A0 A ρ s a w)
    (hx : abuild tab t (parts.toList.map fun p => (p.1, s.ev p.2)) = .val pre v u n) : Goes P o a w (Sim w0 A0 (s.app o.dst v u)) := by
  unfold abuild at hx
  split at hx
  · rename_i ti h1
    obtain ⟨i, z, hi, hz, hs, hR⟩ := zero_RA (ρ := ρ) (A := A) (w := w) (hT t ti h1)
    have run : ∀ {cells : Array Value}, P.built t (parts.toList.map fun p => (p.1, a.eval p.2)) = some cells → (execOp a.eval o).run P w = .ok (.value (.agg cells)) w := by
      intro cells hb
      have := run_build w t (parts.map fun p => (p.1, a.eval p.2)) cells (by simpa using hb)
      simp [execOp, ho, this]
    split at hx
    · rename_i hk
      split at hx
      · rename_i ys hf
        cases hx
        obtain ⟨d, hd, hk'⟩ := (hT t ti h1).und
        unfold TKok at hk'
        rw [hk] at hk'
        obtain ⟨fs, rfl, hm1, hm2⟩ := hk'
        obtain ⟨cells', h2, h3⟩ := fill_R (place := fun i => (ti.flds.map fun f => (f.1, f.2.2)).toArray[i]?) (fun i q hq => by simpa using hq) h parts.toList hR hf
        refine goes_agg h (run ?_) h3
        unfold Program.built
        simp only [hi, hd, hz, hm1]
        exact h2
      · cases hx
    · rename_i m e hk
      split at hx
      · rename_i ei he
        split at hx
        · rename_i ys hf
          cases hx
          have hd := und_array (hT t ti h1) hk
          obtain ⟨ie, ze, hie, hze, hse, _⟩ := zero_RA (ρ := ρ) (A := A) (w := w) (hT e ei he)
          obtain ⟨cells', h2, h3⟩ := fill_R (place := fun i => some (i * ei.size, ei.size)) (fun i q hq => hq) h parts.toList hR hf
          refine goes_agg h (run ?_) h3
          unfold Program.built
          simp only [hi, hd, hz, hie, hse]
          exact h2
        · cases hx
      · cases hx
    · cases hx
  · cases hx

theorem toSs_cell? : ∀ {cs : List AV} {ls : List (List UInt8)}, toSs cs = some ls → ls.length = cs.length ∧ ∀ (i : Nat) (x : AV), (AV.slS ls).cell? i = some x → cs[i]? = some x
  | [], ls, h => by simp [toSs] at h; subst h; exact ⟨rfl, fun i x hx => by simp [AV.cell?] at hx⟩
  | c :: cs, ls, h => by
    cases c <;> simp only [toSs, reduceCtorEq] at h
    rename_i l
    rw [Option.map_eq_some_iff] at h
    obtain ⟨r, hr, rfl⟩ := h
    obtain ⟨h1, h2⟩ := toSs_cell? hr
    refine ⟨by simp [h1], fun i x hx => ?_⟩
    cases i with
    | zero => simpa [AV.cell?] using hx
    | succ i =>
      have := h2 i x (by simpa [AV.cell?] using hx)
      simpa using this

theorem toBs_cell? : ∀ {cs : List AV} {ls : List UInt8}, toBs cs = some ls → ls.length = cs.length ∧ ∀ (i : Nat) (x : AV), cs[i]? = some x → ∃ n, x = .int .u8 n ∧ ls[i]? = some (UInt8.ofNat n.toNat)
  | [], ls, h => by simp [toBs] at h; subst h; exact ⟨rfl, fun i x hx => by simp at hx⟩
  | c :: cs, ls, h => by
    cases c <;> try (simp [toBs] at h; done)
    rename_i k n
    cases k <;> try (simp [toBs] at h; done)
    simp only [toBs] at h
    rw [Option.map_eq_some_iff] at h
    obtain ⟨r, hr, rfl⟩ := h
    obtain ⟨h1, h2⟩ := toBs_cell? hr
    refine ⟨by simp [h1], fun i x hx => ?_⟩
    cases i with
    | zero => simp at hx; subst hx; exact ⟨n, rfl, by simp⟩
    | succ i =>
      obtain ⟨m, hm, hm2⟩ := h2 i x (by simpa using hx)
      exact ⟨m, hm, by simpa using hm2⟩

theorem toRow_ok {k : TK} {sz n : Nat} {cells : List AV} {c : AV} (h : toRow k sz cells = some c) (hk : k = .str → sz = 1) (hl : cells.length = n * sz) : c.rowlen = some n ∧ c.esz = sz ∧ ∀ i x, c.cell? i = some x → cells[i]? = some x := by
  unfold toRow at h
  split at h
  · rw [Option.map_eq_some_iff] at h
    obtain ⟨ls, hls, rfl⟩ := h
    obtain ⟨h1, h2⟩ := toSs_cell? hls
    have := hk rfl
    exact ⟨by simp [AV.rowlen, h1, hl, this], by simp [AV.esz, this], h2⟩
  · split at h
    · cases h
    · cases h
      exact ⟨rowlen_G (by omega) hl, rfl, fun i x hx => hx⟩

/-- A new row. -/
theorem goes_newrow {d e n sz : Nat} {cells : Array Value} {xs : List AV} {c : AV} (h : St w0 A0 A ρ s a w) (hf : s.fresh d) (hrun : (execOp a.eval o).run P w = .ok (.value (.slice (some ⟨w.heap.size, 0, none⟩) n n)) (w.alloc (.cells cells e (0, 0))))
    (hR : RA ρ A w cells xs) (hlen : xs.length = n * sz) (hc1 : c.rowlen = some n) (hc2 : c.esz = sz) (hc3 : ∀ i x, c.cell? i = some x → xs[i]? = some x) (hm : d ∉ c.ments) (hmax : n ≤ maxLen) :
    Goes P o a w (Sim w0 A0 (s.app o.dst (.own d n) [(d, some { wr := true, app := true, c := c, e := e })])) := by
  have hb := below_alloc w (.cells cells e (0, 0))
  have hnew : (w.alloc (.cells cells e (0, 0))).heap[w.heap.size]? = some (.cells cells e (0, 0)) := heap_alloc_new w _
  have hs : (w.alloc (.cells cells e (0, 0))).heap.size = w.heap.size + 1 := by simp
  have h' := h.newobj hf hb (ob := { wr := true, app := true, c := c, e := e }) (ro := .row (.slice (some ⟨w.heap.size, 0, none⟩) n n) n) (fun b hb' => by
      have hbb : w.heap.size = b := by simpa [RO.blk?, Value.ownBlock] using hb'
      exact ⟨by omega, by omega⟩)
    ⟨hc1, ⟨cells.toList, ⟨by rw [Array.length_toList, hR.1, hlen]; exact congrArg _ hc2.symm, .inr ⟨w.heap.size, n, cells, rfl, h.below.size, hnew, Nat.le_refl _, hmax, by rw [hR.1, hlen]; exact congrArg _ hc2.symm, by
        rw [List.take_of_length_le]; rw [Array.length_toList, hR.1, hlen]; exact Nat.le_of_eq (congrArg _ hc2.symm)⟩⟩, fun i x hx => by
        have hi := hc3 i x hx
        obtain ⟨h2, h3⟩ := hR.2 i x hi
        have hlt : i < cells.size := by rw [hR.1]; exact (List.getElem?_eq_some_iff.1 hi).1
        refine ⟨cells.getD i undef, by rw [Array.getElem?_toList, Array.getD_eq_getD_getElem?, Array.getElem?_eq_getElem hlt]; rfl, h2, ?_⟩
        exact h3.mono (fun _ h => h) (fun b hb' => hb.block b (h.bound b hb')) (fun x hx' => Rho.set_other ρ _ (fun e => hm (AV.cell?_ments hx (e ▸ hx'))))⟩,
      fun b hb' => by
        have hbb : w.heap.size = b := by simpa [Value.ownBlock] using hb'
        exact ⟨by omega, fun _ hA => absurd (h.bound _ hA) (by omega), fun hx => (by cases hx)⟩⟩
  exact .inl ⟨_, _, hrun, A, ρ.set d (.row (.slice (some ⟨w.heap.size, 0, none⟩) n n) n), h'.put o.dst (.own d n _ rfl fun o' u' len' ho' hv' => by
    rw [Rho.set_same] at ho'; cases ho'; cases hv'; exact ⟨Nat.le_refl _, fun _ => rfl⟩)⟩

/-- What a row mentions, one of its cells does. -/
theorem row_ments {c : AV} {n d : Nat} (hd : d ∈ c.ments) (hr : c.rowlen = some n := by assumption) : ∃ (i : Nat) (x : AV), c.cell? i = some x ∧ d ∈ x.ments := by
  cases c <;> simp [AV.ments, AV.rowlen] at hd hr
  obtain ⟨i, x, hx, hdx⟩ := mentsL_of hd
  exact ⟨i, x, hx, hdx⟩

theorem afill_mem {place : Nat → Option (Nat × Nat)} : ∀ (parts : List (Nat × AV)) {xs ys : List AV}, afill place xs parts = some ys → ys.length = xs.length ∧ ∀ (i : Nat) (y : AV), ys[i]? = some y → xs[i]? = some y ∨ ∃ (p : Nat × AV) (cs : List AV) (j : Nat), p ∈ parts ∧ p.2.cellsOf = some cs ∧ cs[j]? = some y
  | [], xs, ys, h => by simp [afill] at h; subst h; exact ⟨rfl, fun i y hy => .inl hy⟩
  | (k, x) :: rest, xs, ys, h => by
    simp only [afill] at h
    split at h
    · rename_i off sz cs hp hc
      split at h
      · obtain ⟨h1, h2⟩ := afill_mem rest h
        refine ⟨by rw [h1, setL_length], fun i y hy => ?_⟩
        rcases h2 i y hy with h3 | ⟨p, cs', j, hp', hc', hj⟩
        · rw [setL_getElem?] at h3
          split at h3
          · exact .inr ⟨_, cs, _, List.mem_cons_self, hc, h3⟩
          · exact .inl h3
        · exact .inr ⟨p, cs', j, List.mem_cons_of_mem _ hp', hc', hj⟩
      · cases h
    · cases h

theorem ok_buildSlice {t d len : Nat} {parts : Array (Nat × Operand)} {pre : Prop} {v : AV} {u : List (Nat × Option Obj)} {n : List Nat} (hT : TabOk P tab) (hstr : ∀ e ei, tab e = some ei → ei.k = .str → ei.size = 1) (ho : o.op = .buildSlice t len parts) (h : St w0 A0 A ρ s a w) (hf : s.fresh d)
    (hx : abuildSlice tab (some d) t len (parts.toList.map fun p => (p.1, s.ev p.2)) = .val pre v u n) : Goes P o a w (Sim w0 A0 (s.app o.dst v u)) := by
  unfold abuildSlice at hx
  split at hx
  · rename_i ti d' h1 hd'
    cases hd'
    split at hx
    · rename_i e hk
      split at hx
      · rename_i ei he
        split at hx
        · rename_i ys hs1 hs2 hfil
          split at hx
          · rename_i c hrow
            cases hx
            have hs1 : 1 ≤ ei.size := Nat.le_of_ble_eq_true hs1
            have hs2 : len * ei.size ≤ 4096 := Nat.le_of_ble_eq_true hs2
            have hu := und_slice (hT t ti h1) hk
            obtain ⟨i, z, hi, hz, hs, hR⟩ := zero_RA (ρ := ρ) (A := A) (w := w) (hT e ei he)
            have hzl : ei.zero.length = ei.size := by
              obtain ⟨i, z, _, _, _, _, _, h5, _⟩ := (hT e ei he).info; exact h5
            have hR0 : RA ρ A w ((Array.range (len * ei.size)).map fun j => z.cells[j % z.cells.size]!) ((List.range (len * ei.size)).map fun i => ei.zero.getD (i % ei.size) .junk) := by
              refine ⟨by simp, fun j x hx => ?_⟩
              rw [List.getElem?_map, Option.map_eq_some_iff] at hx
              obtain ⟨q, hq, rfl⟩ := hx
              have hj := (List.getElem?_eq_some_iff.1 hq).1
              simp at hj
              rw [List.getElem?_range hj] at hq; cases hq
              have hm : j % ei.size < ei.size := Nat.mod_lt _ (by omega)
              have := hR.2 (j % ei.size) _ (List.getElem?_eq_getElem (by omega))
              have e1 : ((Array.range (len * ei.size)).map fun j => z.cells[j % z.cells.size]!).getD j undef = z.cells.getD (j % ei.size) undef := by
                rw [Array.getD_eq_getD_getElem?, Array.getElem?_map, Array.getElem?_range, if_pos hj]
                simp only [Option.map_some, Option.getD_some, hR.1, hzl]
                rw [getElem!_pos _ _ (by rw [hR.1, hzl]; exact hm), Array.getD_eq_getD_getElem?, Array.getElem?_eq_getElem (by rw [hR.1, hzl]; exact hm)]
                rfl
              rw [e1, List.getD_eq_getElem?_getD, List.getElem?_eq_getElem (by omega)]
              exact this
            obtain ⟨cells', h2, h3⟩ := fill_R (place := fun i => some (i * ei.size, ei.size)) (fun i q hq => hq) h parts.toList hR0 hfil
            obtain ⟨hyl, hym⟩ := afill_mem _ hfil
            have hyl : ys.length = len * ei.size := by rw [hyl]; simp
            obtain ⟨hc1, hc2, hc3⟩ := toRow_ok hrow (hstr e ei he) hyl
            refine goes_newrow h hf ?_ h3 hyl hc1 hc2 hc3 ?_ ?_
            · have hcs : (if len * i.size = 0 then (#[] : Array Value) else z.cells) = if len * i.size = 0 then #[] else z.cells := rfl
              have h2' : Instr.fill (fun k => some (k * i.size, i.size)) ((Array.range (len * i.size)).map fun x => (if len * i.size = 0 then (#[] : Array Value) else z.cells)[x % (if len * i.size = 0 then (#[] : Array Value) else z.cells).size]!) (parts.toList.map fun p => (p.1, a.eval p.2)) = some cells' := by
                rw [hs]
                by_cases h0 : len * ei.size = 0
                · rw [h0] at h2
                  rw [if_pos h0, h0]
                  have e0 : ∀ f : Nat → Value, Array.map f (Array.range 0) = #[] := fun f => by simp
                  rw [e0] at h2 ⊢
                  exact h2
                · rw [if_neg h0]; exact h2
              have hle : ¬ len * i.size > 16777216 := by rw [hs]; omega
              by_cases h0 : len * i.size = 0
              · rw [if_pos h0] at h2'
                simp [execOp, ho, Instr.buildSlice, run_underlying hu, sizeOf, typeInfo, hi, h0, newRow] at h2' ⊢
                simp [h2']
              · rw [if_neg h0] at h2'
                simp [execOp, ho, Instr.buildSlice, run_underlying hu, sizeOf, typeInfo, zeroValue, hi, hz, hle, h0, newRow] at h2' ⊢
                simp [h2']
            · intro hm
              obtain ⟨q, y, hy, hdy⟩ := row_ments hm
              rcases hym q y (hc3 q y hy) with h4 | ⟨p, cs, j, hp', hcs, hj⟩
              · rw [List.getElem?_map, Option.map_eq_some_iff] at h4
                obtain ⟨r, hr, rfl⟩ := h4
                rw [List.getD_eq_getElem?_getD] at hdy
                cases hzr : ei.zero[r % ei.size]? with
                | none => rw [hzr] at hdy; simp [AV.ments] at hdy
                | some zz => rw [hzr] at hdy; simp only [Option.getD_some] at hdy; rw [(hT e ei he).zm _ _ hzr] at hdy; cases hdy
              · simp only [List.mem_map] at hp'
                obtain ⟨p0, _, rfl⟩ := hp'
                exact fresh_ev hf p0.2 (cellsOf_ments hcs hj hdy)
            · have : len ≤ len * ei.size := Nat.le_mul_of_pos_right _ (by omega)
              unfold maxLen; omega
          · cases hx
        · cases hx
      · cases hx
    · cases hx
  · cases hx

end
end Go.Proofs.Ytefbgdnobnemkaa.AM
