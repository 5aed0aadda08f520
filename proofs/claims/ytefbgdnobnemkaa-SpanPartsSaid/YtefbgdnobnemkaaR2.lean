/-
  Rows: lists of texts, bytes, numbers that are read.
-/
import Derived.Test.YtefbgdnobnemkaaR1
import Derived.Test.YtefbgdnobnemkaaF7
import Derived.SizedLaws
namespace Go.Proofs.Ytefbgdnobnemkaa.AM
open Go Go.RowKit Go.ChangeShapes Go.WideShapes Go.ChangeAt

section
variable {H : Type} {enc : TypeId × Value → H} {W : World} {base : Nat} {v : Value} {d : DataW H} {p : List MemPlace}

theorem okWide_addr {P : Program} {t e : TypeId} {a : Addr} {len cap : Nat} (ht : P.underlying t = some (.slice e)) (h : Value.okWide P W .any base t (.slice (some a) len cap)) : a.spot = none ∧ a.block < W.heap.size ∧ len ≤ cap := by
  simp only [Value.okWide, ht, Cell.okWide, Cell.ok] at h
  obtain ⟨h1, _, _, h2, row, cells, h3, _⟩ := h
  refine ⟨h2, ?_, h1⟩
  unfold World.shape? at h3
  cases hh : W.heap[a.block]? with
  | none => rw [hh] at h3; cases h3
  | some o => exact (Array.getElem?_eq_some_iff.1 hh).1

theorem mem_weights {P : Program} {e : TypeId} {n : Nat} : ∀ {l : List (DataW H)} {x : DataW H}, x ∈ l → n ∈ x.weights P e → n ∈ DataW.weightsAll P e l
  | y :: l, x, hx, hn => by
    simp only [DataW.weightsAll, List.mem_append]
    rcases List.mem_cons.1 hx with rfl | hx
    · exact .inl hn
    · exact .inr (mem_weights hx hn)

set_option maxRecDepth 100000 in
/-- A list of texts that is handed in. -/
theorem open_strsR {P : Program} {t e : TypeId} (ht : P.underlying t = some (.slice e)) (he : P.underlying e = some .string) (hc : P.cellsOf e = 1) (hby : 0 < P.bytesOf e) (hval : Value.okWide P W .any base t v) (h : DataW.Trod enc P W 0 (fun _ => true) true t v d p) (hw : ∀ n ∈ d.weights P t, n ≤ reachBytes) :
    ∃ ls : List (List UInt8), R noRho (oldA W) W v (.slS ls) ∧ ls.length ≤ 140737488355328 ∧ ∀ n : Nat, (ls.getD n []).length ≤ 140737488355328 := by
  have hreach : reachBytes ≤ 140737488355328 := by decide
  obtain ⟨a0, len0, cap0, rfl⟩ := okWide_slice ht hval
  obtain ⟨fuel, hf⟩ := h
  rcases open_strings ht he hc hf with ⟨hcs, _⟩ | ⟨a, len, cap, ss, hcs, _, hle, _, hlen, hx, hcell, _⟩
  · have : Value.slice a0 len0 cap0 = .slice none 0 0 := by simpa [Value.cells] using hcs
    rw [this]
    exact ⟨[], .row0 _ rfl, by simp, fun n => by simp⟩
  · have hv : Value.slice a0 len0 cap0 = .slice (some a) len cap := by simpa [Value.cells] using hcs
    rw [hv] at hval ⊢
    obtain ⟨hsp, hblk, _⟩ := okWide_addr ht hval
    simp only [if_true] at hlen
    have hd : d = .slice (strs (ss.take len)) (strs (ss.drop len)) := by
      have := congrArg Prod.fst hx
      simpa using this
    have hsz : ∀ i, i < len → (ss.getD i ByteArray.empty).size ≤ reachBytes := fun i hi => by
      have hi' : i < ss.length := by omega
      refine hw _ ?_
      rw [hd]
      simp only [DataW.weights, ht, List.mem_cons, List.mem_append]
      refine .inr (.inl (mem_weights (x := .lit (.string (ss.getD i ByteArray.empty).data.toList)) ?_ ?_))
      · unfold strs
        rw [List.mem_map]
        refine ⟨ss.getD i ByteArray.empty, ?_, rfl⟩
        rw [List.mem_take_iff_getElem]
        exact ⟨i, by omega, by simp [hi']⟩
      · simp [DataW.weights]
    have hn : len ≤ reachBytes := by
      have := hw ((strs (H := H) (ss.take len)).length + (strs (H := H) (ss.drop len)).length |> (· * P.bytesOf e)) (by
        rw [hd]; simp [DataW.weights, ht])
      have h2 : (strs (H := H) (ss.take len)).length + (strs (H := H) (ss.drop len)).length = ss.length := by simp [strs]; omega
      simp only [h2] at this
      have h3 : ss.length * 1 ≤ ss.length * P.bytesOf e := Nat.mul_le_mul_left _ hby
      omega
    refine ⟨(ss.take len).map fun s => s.data.toList, ?_, by simp; omega, fun n => ?_⟩
    · obtain ⟨b, off, spot⟩ := a
      simp only at hsp hblk
      subst hsp
      have key : ∀ i x, (AV.slS ((ss.take len).map fun s => s.data.toList)).cell? i = some x → i < len ∧ x = .str (ss.getD i ByteArray.empty).data.toList := fun i x hx => by
        simp only [AV.cell?, List.getElem?_map, Option.map_eq_some_iff] at hx
        obtain ⟨l, ⟨s, hs, rfl⟩, rfl⟩ := hx
        have hi := (List.getElem?_eq_some_iff.1 hs).1
        simp at hi
        have hi1 : i < len := by omega
        rw [List.getElem?_take_of_lt hi1] at hs
        exact ⟨hi1, by simp [hs]⟩
      refine .row b off len cap _ (fun i => .string (ss.getD i ByteArray.empty)) (by simp [AV.rowlen]; omega) hblk hle (fun i x hx => ?_) (fun i x hx => ?_) (fun i x hx => rfl)
      · have := hcell i (by have := (key i x hx).1; omega)
        rw [Addr.add_lit] at this
        exact this
      · rw [(key i x hx).2]
        exact .str _
    · rcases Nat.lt_or_ge n len with hi | hi
      · have h1 := hsz n hi
        have : ((ss.take len).map fun s => s.data.toList).getD n [] = (ss.getD n ByteArray.empty).data.toList := by
          simp [List.getElem?_take_of_lt hi, List.getElem?_eq_getElem (show n < ss.length by omega)]
        rw [this]
        have : (ss.getD n ByteArray.empty).data.toList.length = (ss.getD n ByteArray.empty).size := by simp
        omega
      · have : ((ss.take len).map fun s => s.data.toList).getD n [] = [] := by
          rw [List.getD_eq_getElem?_getD, List.getElem?_eq_none (by simp; omega)]; rfl
        rw [this]; simp

end
end Go.Proofs.Ytefbgdnobnemkaa.AM
