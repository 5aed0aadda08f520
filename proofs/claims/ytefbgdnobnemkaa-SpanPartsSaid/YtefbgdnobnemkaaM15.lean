/-
  Each operation of the model does what the abstract machine says: appends, conversions, rows that are made.
-/
import Derived.Test.YtefbgdnobnemkaaM14
namespace Go.Proofs.Ytefbgdnobnemkaa.AM
open Go Go.RowKit

theorem ncells_row {c : AV} {m : Nat} (h : c.rowlen = some m) : c.ncells = m * c.esz ∧ c.rowlenD = m := by
  cases c <;> simp [AV.rowlen] at h
  · subst h; simp [AV.ncells, AV.esz, AV.rowlenD]
  · subst h; simp [AV.ncells, AV.esz, AV.rowlenD]
  · rename_i sz cs
    obtain ⟨h1, rfl⟩ := h
    exact ⟨h1.2, rfl⟩

theorem cat_ok {c c2 c' : AV} {n m : Nat} (h : c.cat c2 = some c') (hn : c.rowlen = some n) (hm : c2.rowlen = some m) (he : c.esz = c2.esz) : c'.rowlen = some (n + m) ∧ c'.esz = c.esz ∧
    (∀ i x, c'.cell? i = some x → if i < n * c.esz then c.cell? i = some x else c2.cell? (i - n * c.esz) = some x) ∧ ∀ d ∈ c'.ments, d ∈ c.ments ∨ d ∈ c2.ments := by
  unfold AV.cat at h
  split at h
  · cases h
    simp [AV.rowlen] at hn hm; subst hn hm
    refine ⟨by simp [AV.rowlen], rfl, fun i x hx => ?_, fun d hd => by simp [AV.ments] at hd⟩
    simp only [AV.cell?, AV.esz, Nat.mul_one, List.getElem?_append] at hx ⊢
    split <;> simp_all
  · cases h
    simp [AV.rowlen] at hn hm; subst hn hm
    refine ⟨by simp [AV.rowlen], rfl, fun i x hx => ?_, fun d hd => by simp [AV.ments] at hd⟩
    simp only [AV.cell?, AV.esz, Nat.mul_one, List.getElem?_append] at hx ⊢
    split <;> simp_all
  · rename_i sz a sz' b
    split at h
    · rename_i hs
      have hs : sz = sz' := by simpa using hs
      subst hs
      cases h
      obtain ⟨h1, h2⟩ := rowlen_G_inv hn
      obtain ⟨_, h3⟩ := rowlen_G_inv hm
      refine ⟨rowlen_G h1 (by rw [List.length_append, h2, h3, Nat.add_mul]), rfl, fun i x hx => ?_, fun d hd => ?_⟩
      · show if i < n * sz then a[i]? = some x else b[i - n * sz]? = some x
        simp only [AV.cell?, List.getElem?_append, h2] at hx
        by_cases hi : i < n * sz
        · rw [if_pos hi] at hx ⊢; exact hx
        · rw [if_neg hi] at hx ⊢; exact hx
      · simp only [AV.ments] at hd ⊢
        obtain ⟨i, x, hx, hdx⟩ := mentsL_of hd
        rw [List.getElem?_append] at hx
        split at hx
        · exact .inl (mem_mentsL hx hdx)
        · exact .inr (mem_mentsL hx hdx)
    · cases h
  · cases h

section
variable {P : Program} {tab : Tab} {w0 : World} {A0 A : Nat → Prop} {ρ : Rho} {s : AState} {a : Act} {w : World} {o : Oper}

/-- What is appended, as it lies in memory. -/
theorem St.src (h : St w0 A0 A ρ s a w) {v : AV} {p : Prop} {c : AV} {val : Value} (hc : acont v s.obj = some (p, some c)) (hp : p) (hv : R ρ A w val v) :
    ∃ m, c.rowlen = some m ∧ (∀ d, d ∉ v.ments → (∀ ob d', s.obj d' = some ob → d' ∈ v.ments → d ∉ ob.c.ments) → d ∉ c.ments) ∧ ((val = .slice none 0 0 ∧ m = 0) ∨ ∃ (b off cap : Nat) (news : List Value), val = .slice (some ⟨b, off, none⟩) m cap ∧ news.length = m * c.esz ∧ (∀ j u, news[j]? = some u → w.cell? ((⟨b, off, none⟩ : Addr).add j) = some u) ∧
      (∀ u ∈ news, u.oneCell' = true) ∧ ∀ i y, c.cell? i = some y → ∃ u, news[i]? = some u ∧ u.oneCell' = true ∧ R ρ A w u y) := by
  have closed : ∀ (c : AV) (m : Nat), c.rowlen = some m → R ρ A w val c → (val = .slice none 0 0 ∧ m = 0) ∨ ∃ (b off cap : Nat) (news : List Value), val = .slice (some ⟨b, off, none⟩) m cap ∧ news.length = m * c.esz ∧ (∀ j u, news[j]? = some u → w.cell? ((⟨b, off, none⟩ : Addr).add j) = some u) ∧
      (∀ u ∈ news, u.oneCell' = true) ∧ ∀ i y, c.cell? i = some y → ∃ u, news[i]? = some u ∧ u.oneCell' = true ∧ R ρ A w u y := by
    intro c m hm hR
    rcases hR.row_inv hm with h0 | ⟨b, off, cap, vs, hval, hA, hcap, h1, h2, h3⟩
    · exact .inl h0
    · have hnc := (ncells_row hm).1
      refine .inr ⟨b, off, cap, (List.range c.ncells).map vs, hval, by simp [hnc], fun j u hu => ?_, fun u hu => ?_, fun i y hy => ?_⟩
      · rw [List.getElem?_map, Option.map_eq_some_iff] at hu
        obtain ⟨q, hq, rfl⟩ := hu
        have hj := (List.getElem?_eq_some_iff.1 hq).1
        simp at hj
        rw [List.getElem?_range hj] at hq; cases hq
        rw [Addr.add_lit]
        exact h1 j _ (AV.cell?_get hj)
      · simp only [List.mem_map, List.mem_range] at hu
        obtain ⟨j, hj, rfl⟩ := hu
        exact h3 j _ (AV.cell?_get hj)
      · have hi := AV.cell?_lt hy
        exact ⟨vs i, by simp [List.getElem?_range hi], h3 i y hy, h2 i y hy⟩
  unfold acont at hc
  split at hc
  · cases hc
  · cases hc; exact ⟨_, rfl, fun d hd _ => hd, closed _ _ rfl hv⟩
  · cases hc; exact ⟨_, rfl, fun d hd _ => hd, closed _ _ rfl hv⟩
  · cases hc; exact ⟨_, hp, fun d hd _ => hd, closed _ _ hp hv⟩
  · rename_i d n
    split at hc
    · rename_i ob hob
      cases hc
      obtain ⟨ro, u, hro, hok, hval, hcase⟩ := h.row hob hp
      have hvu := hv.own_inv hro hval rfl
      refine ⟨n, hp, fun d' _ h2 => h2 ob d hob (by simp [AV.ments]), ?_⟩
      rcases hcase with ⟨rfl, rfl⟩ | ⟨g, cap, rfl, hcap, hb, hcells⟩
      · exact .inl ⟨hvu, rfl⟩
      · have hnc := (ncells_row hp).1
        refine .inr ⟨g, 0, cap, (List.range ob.c.ncells).map fun i => (w.cell? ⟨g, i, none⟩).getD undef, hvu, by simp [hnc], fun j u hu => ?_, fun u hu => ?_, fun i y hy => ?_⟩
        · rw [List.getElem?_map, Option.map_eq_some_iff] at hu
          obtain ⟨q, hq, rfl⟩ := hu
          have hj := (List.getElem?_eq_some_iff.1 hq).1
          simp at hj
          rw [List.getElem?_range hj] at hq; cases hq
          obtain ⟨_, v, hv, _⟩ := hcells j _ (AV.cell?_get hj)
          rw [Addr.add_lit, Nat.zero_add, hv]; rfl
        · simp only [List.mem_map, List.mem_range] at hu
          obtain ⟨j, hj, rfl⟩ := hu
          obtain ⟨_, v, hv, h1, _⟩ := hcells j _ (AV.cell?_get hj)
          rw [hv]; exact h1
        · have hi := AV.cell?_lt hy
          obtain ⟨_, v, hv, h1, hR⟩ := hcells i y hy
          exact ⟨v, by simp [List.getElem?_range hi, hv], h1, hR⟩
    · cases hc
  · cases hc

theorem ownsRow_base {B B' : Nat} {e : TypeId} {sz : Nat} {v : Value} {n : Nat} {xs : List Value} (h : w.ownsRow B e sz v n xs) (hB : B' ≤ B) : w.ownsRow B' e sz v n xs := by
  refine ⟨h.1, ?_⟩
  rcases h.2 with h | ⟨g, cap, cur, h1, h2, h3⟩
  · exact .inl h
  · exact .inr ⟨g, cap, cur, h1, by omega, h3⟩

/-- append, whatever is appended. -/
theorem run_append_any (base : Nat) (t ty e : TypeId) (i : TypeInfo) (z : Value) (size bytes : Nat) (ht : P.underlying t = some (.slice e)) (hi : P.info? e = some i) (hz : i.zero = some z)
    (hsize : i.size = size) (hby : i.bytes = bytes) (hzs : z.cells.size = size) (hsz : 0 < size)
    (v : Value) (n : Nat) (xs : List Value) (hown : w.ownsRow base e size v n xs) (x : Value) (m : Nat) (news : List Value) (hnl : news.length = m * size)
    (hx : (x = .slice none 0 0 ∧ m = 0) ∨ ∃ (b off cap : Nat), x = .slice (some ⟨b, off, none⟩) m cap ∧ (∀ j u, news[j]? = some u → w.cell? ((⟨b, off, none⟩ : Addr).add j) = some u) ∧ (∀ u ∈ news, u.oneCell' = true))
    (h63 : n + m ≤ maxLen) (hbytes : (n + m) * bytes ≤ 140737488355328) (hbase : base ≤ w.heap.size) :
    ∃ v' w', (Builtin.append_ #[t, t] ty #[v, x]).run P w = .ok v' w' ∧ w'.ownsRow base e size v' (n + m) (xs ++ news) ∧ w.grownBy w' v.ownBlock ∧ (m = 0 → v' = v ∧ w' = w) ∧ ∀ b, v'.ownBlock = some b → v.ownBlock = some b ∨ w.heap.size ≤ b := by
  by_cases hm : m = 0
  · subst hm
    have hn : news = [] := List.eq_nil_of_length_eq_zero (by simpa using hnl)
    subst hn
    have hvs : ∃ base' cap, v = .slice base' n cap ∧ n ≤ cap := by
      rcases hown.2 with ⟨rfl, rfl⟩ | ⟨g, cap, cur, rfl, _, _, h1, _⟩
      · exact ⟨none, 0, rfl, Nat.le_refl _⟩
      · exact ⟨_, cap, rfl, h1⟩
    obtain ⟨base', cap, hv, hcap⟩ := hvs
    refine ⟨v, w, ?_, by simpa using hown, ⟨rfl, rfl, rfl, Nat.le_refl _, fun _ _ _ => rfl⟩, fun _ => ⟨rfl, rfl⟩, fun b hb => .inl hb⟩
    rcases hx with ⟨rfl, _⟩ | ⟨b, off, c, rfl, _⟩
    · rw [hv]
      cases base' <;> simp [Builtin.append_, run_underlying ht, sizeOf, typeInfo, hi, Builtin.lenOf, Builtin.firstCells, hcap, storeCells]
    · rw [hv]
      cases base' <;> simp [Builtin.append_, run_underlying ht, sizeOf, typeInfo, hi, Builtin.lenOf, Builtin.firstCells, hcap, storeCells, loadCells, loadCellsFrom]
  · rcases hx with ⟨_, h0⟩ | ⟨b, off, c, rfl, hc1, hc2⟩
    · exact absurd h0 hm
    · obtain ⟨v', w', h1, h2, h3, h4⟩ := run_append_own (P := P) w base t ty e i z size bytes ht hi hz hsize hby hzs hsz v n xs hown ⟨b, off, none⟩ m c news hnl hc1 hc2 h63 hbytes hbase
      refine ⟨v', w', h1, h2, h3, fun h => absurd h hm, fun q hq => ?_⟩
      subst hsize hby
      rcases hown.2 with ⟨rfl, rfl⟩ | ⟨g, cap, cur, rfl, hbg, hg, hnc, hcm, hcs, htake⟩
      · have hx0 : xs = [] := List.eq_nil_of_length_eq_zero (by simpa using hown.1)
        have hr := run_append_nil (P := P) w t ty e i z ht hi hz ⟨b, off, none⟩ m c news hnl hc1 (by omega) (by unfold maxLen at h63; omega) (by have hb := hbytes; simp only [Nat.zero_add] at hb; omega)
        rw [h1] at hr
        simp only [Result.ok.injEq] at hr
        rw [hr.1] at hq
        cases hq
        exact .inr (Nat.le_refl _)
      · by_cases hroom : n + m ≤ cap
        · have hfit : n * i.size + news.length ≤ cur.size := by rw [hnl, hcs, ← Nat.add_mul]; exact Nat.mul_le_mul_right _ hroom
          have hr := run_append_room (P := P) w t ty e i ht hi g n cap cur hg ⟨b, off, none⟩ m c news hnl hc1 hc2 hroom hfit
          rw [h1] at hr
          simp only [Result.ok.injEq] at hr
          rw [hr.1] at hq
          exact .inl hq
        · have hr := run_append_grow (P := P) w t ty e i z ht hi hz ⟨g, 0, none⟩ n cap xs hown.1 (hown.cells (g := g) rfl) ⟨b, off, none⟩ m c news hnl hc1 (by omega) (by unfold maxLen at h63; omega) (growslice_fits (by omega) hbytes)
          rw [h1] at hr
          simp only [Result.ok.injEq] at hr
          rw [hr.1] at hq
          cases hq
          exact .inr (Nat.le_refl _)

theorem ok_append {t d e : Nat} {x y : Operand} {c : Call} {ti ei : TI} {pre : Prop} {v : AV} {u : List (Nat × Option Obj)} {n : List Nat} (hT : TabOk P tab) (ho : o.op = .call c) (hc : c.callee = .builtin .append) (h : St w0 A0 A ρ s a w)
    (ht : c.argTypes = #[t, t]) (ha : c.args = #[x, y]) (h1 : tab t = some ti) (hk : ti.k = .slice e) (h2 : tab e = some ei) (hb : 1 ≤ ei.bytes) (hf : ∀ d ∈ n, s.fresh d)
    (hx : aappend e ei.size ei.bytes d (s.ev x) (s.ev y) s.obj = .val pre v u n) (hp : pre) : Goes P o a w (Sim w0 A0 (s.app o.dst v u)) := by
  have hu := und_slice (hT t ti h1) hk
  obtain ⟨i, z, hi, hs1, hs2, hs3, hs4, _⟩ := (hT e ei h2).info
  have hpos := (hT e ei h2).pos
  obtain ⟨kb, hkb⟩ := exec_builtin (a := a) ho hc
  have hexec : ∀ {v' : Value} {w' : World}, (Builtin.append_ #[t, t] o.type #[a.eval x, a.eval y]).run P w = .ok v' w' → (execOp a.eval o).run P w = .ok (.value v') w' := by
    intro v' w' hr
    rw [hkb, ht, ha]
    simp [builtin, hr]
  have hmaxle : ∀ q, q * ei.bytes ≤ 140737488355328 → q ≤ maxLen := fun q hq => by
    have := Nat.le_trans (Nat.le_mul_of_pos_right q hb) hq
    unfold maxLen; omega
  unfold aappend at hx
  split at hx
  · -- onto nothing
    rename_i hbase
    have r1 := (hbase ▸ h.ev x : R ρ A w (a.eval x) _).nilsl_inv
    split at hx
    · rename_i p c2 hcont
      split at hx
      · rename_i hesz
        have hesz : c2.esz = ei.size := by simpa using hesz
        cases hx
        obtain ⟨hp1, hp2⟩ := hp
        obtain ⟨m, hm, hments, hsrc⟩ := h.src hcont hp1 (h.ev y)
        obtain ⟨hnc, hmD⟩ := ncells_row hm
        rw [hmD] at hp2 ⊢
        have hfd := hf d (by simp)
        have hdc : d ∉ c2.ments := hments d (fresh_ev hfd y) (fun ob d' hob hd' => hfd.2 d' ob (fun e => fresh_ev hfd y (e ▸ hd')) hob)
        obtain ⟨news, hnl, hsrc', hR⟩ : ∃ news : List Value, news.length = m * ei.size ∧ ((a.eval y = .slice none 0 0 ∧ m = 0) ∨ ∃ (b off cap : Nat), a.eval y = .slice (some ⟨b, off, none⟩) m cap ∧ (∀ j u, news[j]? = some u → w.cell? ((⟨b, off, none⟩ : Addr).add j) = some u) ∧ (∀ u ∈ news, u.oneCell' = true)) ∧
            ∀ i y, c2.cell? i = some y → ∃ u, news[i]? = some u ∧ u.oneCell' = true ∧ R ρ A w u y := by
          rcases hsrc with ⟨h0, rfl⟩ | ⟨b, off, cap, news, q1, q2, q3, q4, q5⟩
          · exact ⟨[], by simp, .inl ⟨h0, rfl⟩, fun i y hy => by have := AV.cell?_lt hy; omega⟩
          · exact ⟨news, by rw [q2, hesz], .inr ⟨b, off, cap, q1, q3, q4⟩, q5⟩
        obtain ⟨v', w', hr, hown, hgr, _, _⟩ := run_append_any (w := w) w.heap.size t o.type e i z ei.size ei.bytes hu hi hs3 hs1 hs2 hs4 hpos (.slice none 0 0) 0 [] (World.ownsRow_nil w _ e ei.size) (a.eval y) m news hnl hsrc' (by rw [Nat.zero_add]; exact hmaxle m hp2) (by rw [Nat.zero_add]; exact hp2) (Nat.le_refl _)
        rw [Nat.zero_add, List.nil_append] at hown
        have hbel : Below w.heap.size w w' := (Below.refl _ w).grown hgr (Nat.le_refl _) (fun k hk => by cases hk)
        have hlt : ∀ b, v'.ownBlock = some b → w.heap.size ≤ b ∧ b < w'.heap.size := fun b hb' => hown.lt b hb'
        have h' := h.newobj hfd hbel (ob := { wr := true, app := true, c := c2, e := e }) (ro := .row v' m) hlt
          ⟨hm, ⟨news, by rw [hesz]; exact ownsRow_base hown h.below.size, fun i x hx => by
            obtain ⟨q, q1, q2, q3⟩ := hR i x hx
            exact ⟨q, q1, q2, q3.mono (fun _ h => h) (fun b hb' => hbel.block b (h.bound b hb')) (fun x' hx' => Rho.set_other ρ _ (fun e => hdc (AV.cell?_ments hx (e ▸ hx'))))⟩⟩,
            fun b hb' => ⟨(hlt b hb').2, fun _ hA => absurd (h.bound _ hA) (by have := (hlt b hb').1; omega), fun hx => (by cases hx)⟩⟩
        have h1c : v'.oneCell' = true := by
          rcases hown.2 with ⟨rfl, _⟩ | ⟨g, cap, cur, rfl, _⟩ <;> rfl
        refine .inl ⟨v', w', hexec (by rw [r1]; exact hr), A, ρ.set d (.row v' m), h'.put o.dst (.own d m _ h1c fun o' u' len' ho' hv' => ?_)⟩
        rw [Rho.set_same] at ho'; cases ho'; cases hv'
        exact ⟨Nat.le_refl _, fun _ => rfl⟩
      · cases hx
    · rename_i p hcont
      cases hx
      have r2 : a.eval y = .slice none 0 0 := by
        unfold acont at hcont
        split at hcont <;> try (simp at hcont; done)
        · rename_i hy; exact (hy ▸ h.ev y : R ρ A w (a.eval y) _).nilsl_inv
        · split at hcont <;> simp at hcont
      refine goes_value h (val := .slice none 0 0) (hexec ?_) .nilsl
      rw [r1, r2]
      simp [Builtin.append_, run_underlying hu, sizeOf, typeInfo, hi, Builtin.lenOf, Builtin.firstCells]
    · cases hx
  · -- onto a row of the running call
    rename_i d' n' hbase
    split at hx
    · rename_i ob hob
      split at hx
      · rename_i p c2 hwa hoe hesz hcont
        split at hx
        · rename_i c' hesz2 hcat
          cases hx
          have hesz : ob.c.esz = ei.size := by simpa using hesz
          have hesz2 : c2.esz = ei.size := by simpa using hesz2
          have hoe : ob.e = e := by simpa using hoe
          obtain ⟨hwr, happ⟩ : ob.wr = true ∧ ob.app = true := by simpa using hwa
          obtain ⟨hp1, hp0, hp2⟩ := hp
          obtain ⟨m, hm, hments, hsrc⟩ := h.src hcont hp1 (h.ev y)
          obtain ⟨hnc, hmD⟩ := ncells_row hm
          rw [hmD] at hp2 ⊢
          obtain ⟨hcat1, hcat2, hcat3, hcat4⟩ := cat_ok hcat hp0 hm (by rw [hesz, hesz2])
          obtain ⟨ro, uv, hro, hok, hval, _⟩ := h.row hob hp0
          have r1 := (hbase ▸ h.ev x : R ρ A w (a.eval x) _).own_inv hro hval rfl
          obtain ⟨news, hnl, hsrc', hR⟩ : ∃ news : List Value, news.length = m * ei.size ∧ ((a.eval y = .slice none 0 0 ∧ m = 0) ∨ ∃ (b off cap : Nat), a.eval y = .slice (some ⟨b, off, none⟩) m cap ∧ (∀ j u, news[j]? = some u → w.cell? ((⟨b, off, none⟩ : Addr).add j) = some u) ∧ (∀ u ∈ news, u.oneCell' = true)) ∧
              ∀ i y, c2.cell? i = some y → ∃ u, news[i]? = some u ∧ u.oneCell' = true ∧ R ρ A w u y := by
            rcases hsrc with ⟨h0, rfl⟩ | ⟨b, off, cap, news, q1, q2, q3, q4, q5⟩
            · exact ⟨[], by simp, .inl ⟨h0, rfl⟩, fun i y hy => by have := AV.cell?_lt hy; omega⟩
            · exact ⟨news, by rw [q2, hesz2], .inr ⟨b, off, cap, q1, q3, q4⟩, q5⟩
          cases ro with
          | box b => cases hval
          | fix b q cap => obtain ⟨q9, _⟩ := hok; rw [happ] at q9; cases q9
          | row uv' q =>
            cases hval
            obtain ⟨_, ⟨xs, hown0, hxs⟩, hblk⟩ := hok
            rw [hesz, hoe] at hown0
            obtain ⟨v', w', hr, hown, hgr, hsame, hnewb⟩ := run_append_any (w := w) w0.heap.size t o.type e i z ei.size ei.bytes hu hi hs3 hs1 hs2 hs4 hpos uv n' xs hown0 (a.eval y) m news hnl hsrc' (hmaxle _ hp2) hp2 h.below.size
            have hlt0 := hown0.lt
            have hlt := hown.lt
            have hnA : ∀ b, uv.ownBlock = some b → ¬ A b := fun b hb' => (hblk b hb').2.1 hwr
            have hsameblk : ∀ k, k < w.heap.size → uv.ownBlock ≠ some k → w'.heap[k]? = w.heap[k]? := fun k hk hne => hgr.block k hk (fun e => hne e.symm)
            have hAw : ∀ b, A b → w'.heap[b]? = w.heap[b]? := fun b hb' => hsameblk b (h.bound b hb') (fun e => hnA b e hb')
            have hle : (RO.row uv n').le (.row v' (n' + m)) := by
              refine ⟨fun b hb' => (by cases hb'), fun u' k hk => ?_⟩
              cases hk
              refine ⟨uv, n', rfl, ?_⟩
              rcases Nat.eq_zero_or_pos m with h0 | h0
              · subst h0; exact .inr ⟨rfl, (hsame rfl).1.symm⟩
              · exact .inl (by omega)
            have hnew : ∀ b, v'.ownBlock = some b → b < w'.heap.size ∧ (uv.ownBlock = some b ∨ w.heap.size ≤ b) := fun b hb' => by
              exact ⟨(hlt b hb').2, hnewb b hb'⟩
            have hmono : ∀ {v : Value} {z : AV}, R ρ A w v z → R (ρ.set d' (.row v' (n' + m))) A w' v z := fun hR => hR.later (fun _ h => h) hAw (fun y _ o' ho' => by
              by_cases hy : y = d'
              · subst hy; rw [Rho.set_same] at ho'; cases ho'; exact ⟨_, hro, hle⟩
              · rw [Rho.set_other ρ _ hy] at ho'; exact ⟨o', ho', RO.le_refl o'⟩)
            have hbel : Below w0.heap.size w w' := (Below.refl _ w).grown hgr h.below.size (fun k hk => (hlt0 k hk).1)
            have h' := h.reobj (w' := w') (ob' := { ob with c := c' }) (ro' := .row v' (n' + m)) hro hle hbel hsameblk hnA hnew
              ⟨hcat1, ⟨xs ++ news, by
                show w'.ownsRow _ ob.e c'.esz _ _ _
                rw [hcat2, hesz, hoe]; exact hown, fun j x hx => by
                have hc := hcat3 j x hx
                have hxl : xs.length = n' * ei.size := hown0.1
                rw [hesz] at hc
                rw [List.getElem?_append, hxl]
                split at hc
                · rename_i hj
                  rw [if_pos hj]
                  obtain ⟨q, q1, q2, q3⟩ := hxs j x hc
                  exact ⟨q, q1, q2, hmono q3⟩
                · rename_i hj
                  rw [if_neg hj]
                  obtain ⟨q, q1, q2, q3⟩ := hR _ x hc
                  exact ⟨q, q1, q2, hmono q3⟩⟩,
                fun b hb' => by
                  refine ⟨(hlt b hb').2, fun _ hA => ?_, fun hx => absurd hx (by simp [hwr])⟩
                  rcases (hnew b hb').2 with h3 | h3
                  · exact hnA b h3 hA
                  · have := h.bound b hA; omega⟩
            have h1c : v'.oneCell' = true := by
              rcases hown.2 with ⟨rfl, _⟩ | ⟨g, cap, cur, rfl, _⟩ <;> rfl
            refine .inl ⟨v', w', hexec (by rw [r1]; exact hr), A, ρ.set d' (.row v' (n' + m)), h'.put o.dst (.own d' (n' + m) _ h1c fun o' u' len' ho' hv' => ?_)⟩
            rw [Rho.set_same] at ho'; cases ho'; cases hv'
            exact ⟨Nat.le_refl _, fun _ => rfl⟩
        · cases hx
      · rename_i p hwa hoe hesz hcont
        cases hx
        obtain ⟨hp1, hp0⟩ := hp
        have r2 : a.eval y = .slice none 0 0 := by
          unfold acont at hcont
          split at hcont <;> try (simp at hcont; done)
          · rename_i hy; exact (hy ▸ h.ev y : R ρ A w (a.eval y) _).nilsl_inv
          · split at hcont <;> simp at hcont
        refine goes_value h (val := a.eval x) (hexec ?_) (hbase ▸ h.ev x)
        obtain ⟨ro, uv, hro, hok, hval, hcase⟩ := h.row hob hp0
        have r1 := (hbase ▸ h.ev x : R ρ A w (a.eval x) _).own_inv hro hval rfl
        rw [r1, r2]
        rcases hcase with ⟨rfl, rfl⟩ | ⟨g, cap, rfl, hcap, _⟩
        · simp [Builtin.append_, run_underlying hu, sizeOf, typeInfo, hi, Builtin.lenOf, Builtin.firstCells]
        · simp [Builtin.append_, run_underlying hu, sizeOf, typeInfo, hi, Builtin.lenOf, Builtin.firstCells, hcap, storeCells]
      · cases hx
    · cases hx
  · cases hx

end
end Go.Proofs.Ytefbgdnobnemkaa.AM
