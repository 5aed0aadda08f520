/-
  Rows: what is handed in, read.
-/
import Derived.Test.YtefbgdnobnemkaaG1
import Derived.Test.YtefbgdnobnemkaaRows
import Derived.WalkKit
import Derived.ProofKit
import Derived.OpenShut
import Derived.Carry
import Derived.SliceStrings
import Derived.Lib.SmallJoins
import Derived.SizedLaws
set_option linter.unusedSimpArgs false
set_option linter.unusedVariables false
set_option linter.unusedSectionVars false
namespace Go.Proofs.Ytefbgdnobnemkaa.AM
open Go Go.RowKit Go.ChangeShapes Go.WideShapes Go.ChangeAt

theorem stays {P : Program} {H : Type} {enc : TypeId × Value → H} {W W' : World} (hl : laidOutB P = true) (hb : Below W.heap.size W W') : ∀ (ts : List TypeId) {vs : List Value} {ds : List (DataW H)} {ps : List MemPlace}, (ts.all fun t => P.readableRec t && decide (t < P.types.size)) = true →
    DataW.TrodAll enc P W 0 (fun _ => true) true ts vs ds ps → (∀ x ∈ ps, x.block < W.heap.size) → DataW.TrodAll enc P W' 0 (fun b => decide (b < W.heap.size)) true ts vs ds ps := by
  intro ts
  induction ts with
  | nil =>
    intro vs ds ps _ h _
    cases vs <;> cases ds <;> first | exact h | exact h.elim
  | cons t ts ih =>
    intro vs ds ps hr h hs
    obtain ⟨v, vs', d, ds', p, q, rfl, rfl, rfl, h1, h2⟩ := trodAll_cons h
    rw [List.all_cons, Bool.and_eq_true, Bool.and_eq_true, decide_eq_true_eq] at hr
    exact ⟨p, q, Below.trod hl hr.1.1 hr.1.2 h1 hb (fun x hx => hs x (List.mem_append_left _ hx)), ih hr.2 h2 (fun x hx => hs x (List.mem_append_right _ hx)), rfl⟩

theorem laidOut : laidOutB Try.prog = true := by kernel_rfl

abbrev oldA (W : World) : Nat → Prop := fun b => b < W.heap.size

theorem wf_inK {k : IntKind} {n : Int} (h : (Lit.int k n).wf = true) : inK k n := by
  cases k <;> simp [Lit.wf, IntKind.min, IntKind.max, IntKind.bits, IntKind.signed] at h <;> unfold inK <;> omega

section
variable {H : Type} {enc : TypeId × Value → H} {W : World} {base : Nat} {v : Value} {d : DataW H} {p : List MemPlace}

set_option maxRecDepth 100000 in
theorem open_posR (hval : Value.okWide Try.prog W .any base 23 v) (h : DataW.Trod enc Try.prog W 0 (fun _ => true) true 23 v d p) : ∃ a b : Int, R noRho (oldA W) W v (.agg [.int .i64 a, .int .i64 b]) ∧ inK .i64 a ∧ inK .i64 b := by
  obtain ⟨v0, v1, y0, y1, n, rfl, _, _, h0, h1⟩ := Go.Joins.open_agg2 Try.underlying23 (by kernel_rfl) (by kernel_rfl) hval h
  obtain ⟨a, ha, _, wa⟩ := DataW.trod_int Try.underlying3 h0
  obtain ⟨b, hb, _, wb⟩ := DataW.trod_int Try.underlying3 h1
  cases ha; cases hb
  refine ⟨a, b, .agg _ _ rfl (fun i x hx => ?_) (fun i hi => ?_), wf_inK wa, wf_inK wb⟩
  · match i, hx with
    | 0, hx => cases hx; exact .int _ _
    | 1, hx => cases hx; exact .int _ _
    | i + 2, hx => simp at hx
  · match i, hi with
    | 0, _ => rfl
    | 1, _ => rfl

end
end Go.Proofs.Ytefbgdnobnemkaa.AM

namespace Go.Proofs.Ytefbgdnobnemkaa.AM
open Go Go.RowKit Go.ChangeShapes Go.WideShapes Go.ChangeAt

section
variable {H : Type} {enc : TypeId × Value → H} {W : World} {base : Nat} {v : Value} {d : DataW H} {p : List MemPlace}

theorem okWide_addr {P : Program} {t e : TypeId} {a : Addr} {len cap : Nat} (ht : P.underlying t = some (.slice e)) (h : Value.okWide P W .any base t (.slice (some a) len cap)) : a.spot = none ∧ a.block < W.heap.size ∧ len ≤ cap := by
  simp only [Value.okWide, ht, Cell.okWide, Cell.ok] at h
  obtain ⟨h1, _, _, h2, row, cells, h3, _⟩ := h
  refine ⟨h2, ?_, h1⟩
  unfold World.shape? at h3
  cases hh : W.heap[a.block]? with
  | none => rw [hh] at h3; cases h3
  | some o => exact (Array.getElem?_eq_some_iff.1 hh).1

theorem mem_weights {P : Program} {e : TypeId} {n : Nat} : ∀ {l : List (DataW H)} {x : DataW H}, x ∈ l → n ∈ x.weights P e → n ∈ DataW.weightsAll P e l
  | y :: l, x, hx, hn => by
    simp only [DataW.weightsAll, List.mem_append]
    rcases List.mem_cons.1 hx with rfl | hx
    · exact .inl hn
    · exact .inr (mem_weights hx hn)

set_option maxRecDepth 100000 in
/-- A list of texts that is handed in. -/
theorem open_strsR {P : Program} {t e : TypeId} (ht : P.underlying t = some (.slice e)) (he : P.underlying e = some .string) (hc : P.cellsOf e = 1) (hby : 0 < P.bytesOf e) (hval : Value.okWide P W .any base t v) (h : DataW.Trod enc P W 0 (fun _ => true) true t v d p) (hw : ∀ n ∈ d.weights P t, n ≤ reachBytes) :
    ∃ ls : List (List UInt8), R noRho (oldA W) W v (.slS ls) ∧ ls.length ≤ 140737488355328 ∧ ∀ n : Nat, (ls.getD n []).length ≤ 140737488355328 := by
  have hreach : reachBytes ≤ 140737488355328 := by decide
  obtain ⟨a0, len0, cap0, rfl⟩ := okWide_slice ht hval
  obtain ⟨fuel, hf⟩ := h
  rcases open_strings ht he hc hf with ⟨hcs, _⟩ | ⟨a, len, cap, ss, hcs, _, hle, _, hlen, hx, hcell, _⟩
  · have : Value.slice a0 len0 cap0 = .slice none 0 0 := by simpa [Value.cells] using hcs
    rw [this]
    exact ⟨[], .row0 _ rfl, by simp, fun n => by simp⟩
  · have hv : Value.slice a0 len0 cap0 = .slice (some a) len cap := by simpa [Value.cells] using hcs
    rw [hv] at hval ⊢
    obtain ⟨hsp, hblk, _⟩ := okWide_addr ht hval
    simp only [if_true] at hlen
    have hd : d = .slice (strs (ss.take len)) (strs (ss.drop len)) := by
      have := congrArg Prod.fst hx
      simpa using this
    have hsz : ∀ i, i < len → (ss.getD i ByteArray.empty).size ≤ reachBytes := fun i hi => by
      have hi' : i < ss.length := by omega
      refine hw _ ?_
      rw [hd]
      simp only [DataW.weights, ht, List.mem_cons, List.mem_append]
      refine .inr (.inl (mem_weights (x := .lit (.string (ss.getD i ByteArray.empty).data.toList)) ?_ ?_))
      · unfold strs
        rw [List.mem_map]
        refine ⟨ss.getD i ByteArray.empty, ?_, rfl⟩
        rw [List.mem_take_iff_getElem]
        exact ⟨i, by omega, by simp [hi']⟩
      · simp [DataW.weights]
    have hn : len ≤ reachBytes := by
      have := hw ((strs (H := H) (ss.take len)).length + (strs (H := H) (ss.drop len)).length |> (· * P.bytesOf e)) (by
        rw [hd]; simp [DataW.weights, ht])
      have h2 : (strs (H := H) (ss.take len)).length + (strs (H := H) (ss.drop len)).length = ss.length := by simp [strs]; omega
      simp only [h2] at this
      have h3 : ss.length * 1 ≤ ss.length * P.bytesOf e := Nat.mul_le_mul_left _ hby
      omega
    refine ⟨(ss.take len).map fun s => s.data.toList, ?_, by simp; omega, fun n => ?_⟩
    · obtain ⟨b, off, spot⟩ := a
      simp only at hsp hblk
      subst hsp
      have key : ∀ i x, (AV.slS ((ss.take len).map fun s => s.data.toList)).cell? i = some x → i < len ∧ x = .str (ss.getD i ByteArray.empty).data.toList := fun i x hx => by
        simp only [AV.cell?, List.getElem?_map, Option.map_eq_some_iff] at hx
        obtain ⟨l, ⟨s, hs, rfl⟩, rfl⟩ := hx
        have hi := (List.getElem?_eq_some_iff.1 hs).1
        simp at hi
        have hi1 : i < len := by omega
        rw [List.getElem?_take_of_lt hi1] at hs
        exact ⟨hi1, by simp [hs]⟩
      refine .row b off len cap _ (fun i => .string (ss.getD i ByteArray.empty)) (by simp [AV.rowlen]; omega) hblk hle (fun i x hx => ?_) (fun i x hx => ?_) (fun i x hx => rfl)
      · have := hcell i (by have := (key i x hx).1; omega)
        rw [Addr.add_lit] at this
        exact this
      · rw [(key i x hx).2]
        exact .str _
    · rcases Nat.lt_or_ge n len with hi | hi
      · have h1 := hsz n hi
        have : ((ss.take len).map fun s => s.data.toList).getD n [] = (ss.getD n ByteArray.empty).data.toList := by
          simp [List.getElem?_take_of_lt hi, List.getElem?_eq_getElem (show n < ss.length by omega)]
        rw [this]
        have : (ss.getD n ByteArray.empty).data.toList.length = (ss.getD n ByteArray.empty).size := by simp
        omega
      · have : ((ss.take len).map fun s => s.data.toList).getD n [] = [] := by
          rw [List.getD_eq_getElem?_getD, List.getElem?_eq_none (by simp; omega)]; rfl
        rw [this]; simp

end
end Go.Proofs.Ytefbgdnobnemkaa.AM
