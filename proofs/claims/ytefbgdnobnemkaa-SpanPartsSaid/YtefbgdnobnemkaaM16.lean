/-
  Each operation of the model does what the abstract machine says: conversions, rows of bytes that are made; all operations together.
-/
import Derived.Test.YtefbgdnobnemkaaM15
import Derived.Laws.MakeOwn
import Derived.Laws.BytesArg
import Derived.Lib.ConvBytes
namespace Go.Proofs.Ytefbgdnobnemkaa.AM
open Go Go.RowKit

section
variable {P : Program} {tab : Tab} {w0 : World} {A0 A : Nat → Prop} {ρ : Rho} {s : AState} {a : Act} {w : World} {o : Oper}

theorem und_of_tab {t : TypeId} {ti : TI} (hT : TabOk P tab) (h : tab t = some ti) : ∃ d, P.underlying t = some d := by
  obtain ⟨d, hd, _⟩ := (hT t ti h).und
  exact ⟨d, hd⟩

/-- Bytes that lie in memory, as a string. -/
theorem run_str_row {src dst e : TypeId} (hs : P.underlying src = some (.slice e)) (he : P.underlying e = some (.int .u8)) (hd : P.underlying dst = some .string) {b off n cap : Nat} {bs : List UInt8} (hn : bs.length = n) (ks : List Int) (hk : ks.length = n)
    (hkb : ∀ (i : Nat) (x : Int), ks[i]? = some x → bs[i]? = some (UInt8.ofNat x.toNat)) (hc : ∀ (i : Nat) (x : Int), ks[i]? = some x → w.cell? ⟨b, off + i, none⟩ = some (.int .u8 x)) : (convert src dst (.slice (some ⟨b, off, none⟩) n cap)).run P w = .ok (.string ⟨bs.toArray⟩) w := by
  rw [run_convert_bytes_arg w src e hs he b off n cap ks hk (fun i hi => by
    have := hc i _ (List.getElem?_eq_getElem (show i < ks.length by omega))
    rw [this, List.getD_eq_getElem?_getD, List.getElem?_eq_getElem (by omega)]; rfl) dst hd]
  congr 2
  apply ByteArray.ext
  apply Array.ext'
  rw [strOfNums_data]
  apply List.ext_getElem?
  intro i
  rcases Nat.lt_or_ge i ks.length with hi | hi
  · rw [List.getElem?_map, List.getElem?_eq_getElem hi, Option.map_some, ← hkb i _ (List.getElem?_eq_getElem hi)]
  · rw [List.getElem?_eq_none (by simpa using hi)]
    exact (List.getElem?_eq_none (by simp; omega)).symm

theorem slB_ints {bs : List UInt8} : (bs.map fun b => (b.toNat : Int)).length = bs.length ∧ (∀ (i : Nat) (x : Int), (bs.map fun b => (b.toNat : Int))[i]? = some x → bs[i]? = some (UInt8.ofNat x.toNat)) ∧
    ∀ (i : Nat) (x : Int), (bs.map fun b => (b.toNat : Int))[i]? = some x → (AV.slB bs).cell? i = some (.int .u8 x) := by
  refine ⟨by simp, fun i x hx => ?_, fun i x hx => ?_⟩
  · rw [List.getElem?_map, Option.map_eq_some_iff] at hx
    obtain ⟨b, hb, rfl⟩ := hx
    simp [hb]
  · rw [List.getElem?_map, Option.map_eq_some_iff] at hx
    obtain ⟨b, hb, rfl⟩ := hx
    simp [AV.cell?, hb]

theorem toBs_ints : ∀ {cs : List AV} {bs : List UInt8}, toBs cs = some bs → ∃ ks : List Int, ks.length = bs.length ∧ cs.length = bs.length ∧ (∀ (i : Nat) (x : Int), ks[i]? = some x → bs[i]? = some (UInt8.ofNat x.toNat)) ∧ ∀ (i : Nat) (x : Int), ks[i]? = some x → cs[i]? = some (.int .u8 x)
  | [], bs, h => by simp [toBs] at h; subst h; exact ⟨[], rfl, rfl, fun i x hx => by simp at hx, fun i x hx => by simp at hx⟩
  | c :: cs, bs, h => by
    cases c <;> try (simp [toBs] at h; done)
    rename_i k n
    cases k <;> try (simp [toBs] at h; done)
    simp only [toBs] at h
    rw [Option.map_eq_some_iff] at h
    obtain ⟨r, hr, rfl⟩ := h
    obtain ⟨ks, h1, h2, h3, h4⟩ := toBs_ints hr
    refine ⟨n :: ks, by simp [h1], by simp [h2], fun i x hx => ?_, fun i x hx => ?_⟩
    · cases i with
      | zero => simp at hx; subst hx; simp
      | succ i => simpa using h3 i x (by simpa using hx)
    · cases i with
      | zero => simp at hx; subst hx; simp
      | succ i => simpa using h4 i x (by simpa using hx)

theorem run_convert_string_bytes_any {src dst e : TypeId} (hs : P.underlying src = some .string) (hd : P.underlying dst = some (.slice e)) (he : P.underlying e = some (.int .u8)) (l : List UInt8) :
    (convert src dst (.string ⟨l.toArray⟩)).run P w = .ok (.slice (some ⟨w.heap.size, 0, none⟩) l.length (grownCap w l.length 0 e)) (Lib.bytesWorld w e ⟨l.toArray⟩) := by
  have := Lib.run_convert_string_bytes w src dst e ⟨l.toArray⟩ hs hd he
  have hsz : (ByteArray.mk l.toArray).size = l.length := by simp [ByteArray.size]
  rwa [hsz] at this

theorem ok_conv {src t : TypeId} {x : Operand} {pre : Prop} {v : AV} {u : List (Nat × Option Obj)} {n : List Nat} (hT : TabOk P tab) (ho : o.op = .convert src t x) (h : St w0 A0 A ρ s a w) (hf : ∀ d ∈ n, s.fresh d)
    (hx : aconv tab o.dst src t (s.ev x) s.obj = .val pre v u n) (hp : pre) : Goes P o a w (Sim w0 A0 (s.app o.dst v u)) := by
  have hexec : ∀ {v' : Value} {w' : World}, (convert src t (a.eval x)).run P w = .ok v' w' → (execOp a.eval o).run P w = .ok (.value v') w' := by
    intro v' w' hr
    simp [execOp, ho, hr]
  unfold aconv at hx
  split at hx
  · rename_i si ti hsi hti
    obtain ⟨ud, hud⟩ := und_of_tab hT hsi
    split at hx
    · -- numbers
      rename_i k1 k k2 m hk1 hk2 hm
      cases hx
      have r1 := (hm ▸ h.ev x : R ρ A w (a.eval x) _).int_inv
      refine goes_value h (hexec (v' := .int k m) ?_) (.int _ _)
      rw [r1]
      simp [convert, run_underlying hud, run_underlying (und_int (hT t ti hti) hk2), Conv.intToInt, wrap_inK hp]
    · -- bytes to a string
      rename_i e hk1 hk2
      have hus := und_slice (hT src si hsi) hk1
      have hut := und_str (hT t ti hti) hk2
      split at hx
      · rename_i hek
        rw [Option.map_eq_some_iff] at hek
        obtain ⟨ei, hei, hek⟩ := hek
        have hue := und_int (hT e ei hei) hek
        have closed : ∀ (c : AV) (m : Nat) (bs : List UInt8) (ks : List Int), c.rowlen = some m → R ρ A w (a.eval x) c → bs.length = m → ks.length = m → (∀ (i : Nat) (x : Int), ks[i]? = some x → bs[i]? = some (UInt8.ofNat x.toNat)) → (∀ (i : Nat) (x : Int), ks[i]? = some x → c.cell? i = some (.int .u8 x)) →
            Goes P o a w (Sim w0 A0 (s.app o.dst (.str bs) [])) := by
          intro c m bs ks hm hR hb hk hkb hkc
          refine goes_value h (hexec (v' := .string ⟨bs.toArray⟩) ?_) (.str _)
          rcases hR.row_inv hm with ⟨r1, rfl⟩ | ⟨b, off, cap, vs, r1, hA, hcap, h1, h2, h3⟩
          · rw [r1, run_convert_bytes_nil w src e hus hue 0 0 t hut]
            have : bs = [] := List.eq_nil_of_length_eq_zero hb
            subst this; rfl
          · rw [r1]
            exact run_str_row hus hue hut hb ks hk hkb (fun i x hx => by
              have hc := hkc i x hx
              rw [h1 i _ hc, (h2 i _ hc).int_inv])
        split at hx
        · rename_i hm
          cases hx
          have r1 := (hm ▸ h.ev x : R ρ A w (a.eval x) _).nilsl_inv
          refine goes_value h (hexec (v' := .string ⟨([] : List UInt8).toArray⟩) ?_) (.str _)
          rw [r1, run_convert_bytes_nil w src e hus hue 0 0 t hut]; rfl
        · rename_i bs hm
          cases hx
          obtain ⟨q1, q2, q3⟩ := slB_ints (bs := bs)
          exact closed (.slB bs) bs.length bs _ rfl (hm ▸ h.ev x) rfl q1 q2 q3
        · rename_i cs hm
          split at hx
          · rename_i bs hbs
            cases hx
            obtain ⟨ks, q1, q2, q3, q4⟩ := toBs_ints hbs
            exact closed (.slG 1 cs) bs.length bs ks (rowlen_G (by omega) (by omega)) (hm ▸ h.ev x) rfl q1 q3 q4
          · cases hx
        · rename_i d m hm
          split at hx
          · rename_i ob hob
            have own : ∀ (bs : List UInt8) (ks : List Int), ob.c.rowlen = some m → bs.length = m → ks.length = m → (∀ (i : Nat) (x : Int), ks[i]? = some x → bs[i]? = some (UInt8.ofNat x.toNat)) → (∀ (i : Nat) (x : Int), ks[i]? = some x → ob.c.cell? i = some (.int .u8 x)) →
                Goes P o a w (Sim w0 A0 (s.app o.dst (.str bs) [])) := by
              intro bs ks hrl hb hk hkb hkc
              obtain ⟨ro, uv, hro, hok, hval, hcase⟩ := h.row hob hrl
              have r1 := (hm ▸ h.ev x : R ρ A w (a.eval x) _).own_inv hro hval rfl
              refine goes_value h (hexec (v' := .string ⟨bs.toArray⟩) ?_) (.str _)
              rw [r1]
              rcases hcase with ⟨rfl, rfl⟩ | ⟨g, cap, rfl, hcap, hb', hcells⟩
              · rw [run_convert_bytes_nil w src e hus hue 0 0 t hut]
                have : bs = [] := List.eq_nil_of_length_eq_zero hb
                subst this; rfl
              · exact run_str_row hus hue hut hb ks hk hkb (fun i x hx => by
                  obtain ⟨_, v, hv, _, hR⟩ := hcells i _ (hkc i x hx)
                  rw [Nat.zero_add, hv, hR.int_inv])
            split at hx
            · rename_i bs hbs
              cases hx
              obtain ⟨q1, q2, q3⟩ := slB_ints (bs := bs)
              exact own bs _ (by rw [hbs, ← hp]; rfl) hp (by rw [q1]; exact hp) q2 (by rw [hbs]; exact q3)
            · rename_i cs hcs
              split at hx
              · rename_i bs hbs
                cases hx
                obtain ⟨ks, q1, q2, q3, q4⟩ := toBs_ints hbs
                exact own bs ks (by rw [hcs]; exact rowlen_G (by omega) (by omega)) (by omega) (by omega) q3 (by rw [hcs]; exact q4)
              · cases hx
            · cases hx
          · cases hx
        · cases hx
      · cases hx
    · -- a string to bytes
      rename_i e l hk1 hk2 hm
      have hus := und_str (hT src si hsi) hk1
      have hut := und_slice (hT t ti hti) hk2
      split at hx
      · rename_i d hek hd
        rw [Option.map_eq_some_iff] at hek
        obtain ⟨ei, hei, hek⟩ := hek
        have hue := und_int (hT e ei hei) hek
        cases hx
        have hfd := hf d (by simp)
        have r1 := (hm ▸ h.ev x : R ρ A w (a.eval x) _).str_inv
        have hsz : (ByteArray.mk l.toArray).size = l.length := by simp [ByteArray.size]
        have hbel : Below w.heap.size w (Lib.bytesWorld w e ⟨l.toArray⟩) := ⟨rfl, rfl, rfl, by rw [Lib.bytesWorld_size]; omega, fun k hk => Lib.bytesWorld_at_old w e _ k hk⟩
        have hnew := Lib.bytesWorld_at_new w e ⟨l.toArray⟩
        have hge := grownCap_ge w l.length 0 e
        have hcs : l.length ≤ (Lib.bytesCells w e ⟨l.toArray⟩).size := by simp [Lib.bytesCells]
        have h' := h.newobj hfd hbel (ob := { wr := true, app := false, c := .slB l, e := e }) (ro := .fix w.heap.size l.length (grownCap w l.length 0 e)) (fun b hb' => by cases hb'; exact ⟨Nat.le_refl _, by rw [Lib.bytesWorld_size]; omega⟩)
          ⟨rfl, hge, rfl, h.below.size, by rw [Lib.bytesWorld_size]; omega, fun _ hA => absurd (h.bound _ hA) (by omega), fun hx => (by cases hx), fun i y hy => by
            have hi : i < l.length := AV.cell?_lt hy
            refine ⟨?_, _, Lib.bytesWorld_cell w e ⟨l.toArray⟩ i (by rw [hsz]; exact hi), rfl, ?_⟩
            · simp only [World.frozen?, hnew]; simp; omega
            · simp only [AV.cell?, Option.map_eq_some_iff] at hy
              obtain ⟨b, hb, rfl⟩ := hy
              have : (⟨l.toArray⟩ : ByteArray).data.toList.getD i 0 = b := by simp [List.getD_eq_getElem?_getD, hb]
              rw [this]
              exact .int _ _⟩
        have hr := run_convert_string_bytes_any (P := P) (w := w) hus hut hue l
        refine .inl ⟨_, _, hexec (by rw [r1]; exact hr), A, ρ.set d (.fix w.heap.size l.length (grownCap w l.length 0 e)), h'.put o.dst (.own d l.length _ rfl fun o' u' len' ho' hv' => ?_)⟩
        rw [Rho.set_same] at ho'; cases ho'; cases hv'
        exact ⟨Nat.le_refl _, fun _ => rfl⟩
      · cases hx
    · cases hx
  · cases hx

end
end Go.Proofs.Ytefbgdnobnemkaa.AM
