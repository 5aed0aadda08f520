/-
  Rows: texts, bytes that are handed in, read.
-/
import Derived.Test.YtefbgdnobnemkaaRR
import Derived.ChangeMaps5
import Derived.ChangeSlices
namespace Go.Proofs.Ytefbgdnobnemkaa.AM
open Go Go.RowKit Go.ChangeShapes Go.WideShapes Go.ChangeAt

section
variable {H : Type} {enc : TypeId × Value → H} {W : World} {base : Nat} {v : Value} {d : DataW H} {p : List MemPlace}

/-- A text that is handed in. -/
theorem open_strR {P : Program} {t : TypeId} (ht : P.underlying t = some .string) (hval : Value.okWide P W .any base t v) (h : DataW.Trod enc P W 0 (fun _ => true) true t v d p) (hw : ∀ n ∈ d.weights P t, n ≤ reachBytes) :
    ∃ l : List UInt8, R noRho (oldA W) W v (.str l) ∧ l.length ≤ 140737488355328 := by
  have hreach : reachBytes ≤ 140737488355328 := by decide
  obtain ⟨s, rfl, hd, _, _⟩ := Go.ChangeMaps.open_string ht hval h
  refine ⟨s.data.toList, .str s.data.toList, ?_⟩
  have := hw s.data.toList.length (by rw [hd]; simp [DataW.weights])
  omega

set_option maxRecDepth 100000 in
/-- Bytes that are handed in. -/
theorem open_bytesR {P : Program} {t e : TypeId} (ht : P.underlying t = some (.slice e)) (he : P.underlying e = some (.int .u8)) (hc : P.cellsOf e = 1) (hby : 0 < P.bytesOf e) (hval : Value.okWide P W .any base t v) (h : DataW.Trod enc P W 0 (fun _ => true) true t v d p) (hw : ∀ n ∈ d.weights P t, n ≤ reachBytes) :
    ∃ l : List UInt8, R noRho (oldA W) W v (.slB l) ∧ l.length ≤ 140737488355328 := by
  have hreach : reachBytes ≤ 140737488355328 := by decide
  obtain ⟨a0, len0, cap0, rfl⟩ := okWide_slice ht hval
  obtain ⟨fuel, hf⟩ := h
  rcases open_ints ht he hc hf with ⟨hcs, _⟩ | ⟨a, len, cap, zs, hcs, _, hle, _, hlen, hx, hcell, hwf⟩
  · have : Value.slice a0 len0 cap0 = .slice none 0 0 := by simpa [Value.cells] using hcs
    rw [this]
    exact ⟨[], .row0 _ rfl, by simp⟩
  · have hv : Value.slice a0 len0 cap0 = .slice (some a) len cap := by simpa [Value.cells] using hcs
    rw [hv] at hval ⊢
    obtain ⟨hsp, hblk, _⟩ := okWide_addr ht hval
    simp only [if_true] at hlen
    have hd : d = .slice (lits .u8 (zs.take len)) (lits .u8 (zs.drop len)) := by
      have := congrArg Prod.fst hx
      simpa using this
    have hn : len ≤ reachBytes := by
      have := hw ((lits (H := H) .u8 (zs.take len)).length + (lits (H := H) .u8 (zs.drop len)).length |> (· * P.bytesOf e)) (by
        rw [hd]; simp [DataW.weights, ht])
      have h2 : (lits (H := H) .u8 (zs.take len)).length + (lits (H := H) .u8 (zs.drop len)).length = zs.length := by simp [lits]; omega
      simp only [h2] at this
      have h3 : zs.length * 1 ≤ zs.length * P.bytesOf e := Nat.mul_le_mul_left _ hby
      omega
    have hz : ∀ i, i < zs.length → ((UInt8.ofNat (zs.getD i 0).toNat).toNat : Int) = zs.getD i 0 := fun i hi => by
      have h1 : inK .u8 (zs.getD i 0) := wf_inK (hwf _ (by simp [hi]))
      have h2 := h1.1
      have h3 := h1.2
      rw [UInt8.toNat_ofNat']
      omega
    refine ⟨(zs.take len).map fun n => UInt8.ofNat n.toNat, ?_, by simp; omega⟩
    obtain ⟨b, off, spot⟩ := a
    simp only at hsp hblk
    subst hsp
    have key : ∀ i x, (AV.slB ((zs.take len).map fun n => UInt8.ofNat n.toNat)).cell? i = some x → i < len ∧ x = .int .u8 (zs.getD i 0) := fun i x hx => by
      simp only [AV.cell?, List.getElem?_map, Option.map_eq_some_iff] at hx
      obtain ⟨l, ⟨s, hs, rfl⟩, rfl⟩ := hx
      have hi := (List.getElem?_eq_some_iff.1 hs).1
      simp at hi
      have hi1 : i < len := by omega
      rw [List.getElem?_take_of_lt hi1] at hs
      have e : zs.getD i 0 = s := by simp [hs]
      have := hz i (by omega)
      rw [e] at this
      exact ⟨hi1, by rw [this, e]⟩
    refine .row b off len cap _ (fun i => .int .u8 (zs.getD i 0)) (by simp [AV.rowlen]; omega) hblk hle (fun i x hx => ?_) (fun i x hx => ?_) (fun i x hx => rfl)
    · have := hcell i (by have := (key i x hx).1; omega)
      rw [Addr.add_lit] at this
      exact this
    · rw [(key i x hx).2]
      exact .int _ _

end
end Go.Proofs.Ytefbgdnobnemkaa.AM
