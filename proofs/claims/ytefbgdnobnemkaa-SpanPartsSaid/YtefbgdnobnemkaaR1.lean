/-
  Rows: what is read, and that it reads so behind a call.
-/
import Derived.Test.YtefbgdnobnemkaaF5
import Derived.Test.YtefbgdnobnemkaaRows
import Derived.WalkKit
import Derived.ProofKit
import Derived.OpenShut
import Derived.Carry
import Derived.SliceStrings
import Derived.Lib.SmallJoins
namespace Go.Proofs.Ytefbgdnobnemkaa.AM
open Go Go.RowKit Go.ChangeShapes Go.WideShapes Go.ChangeAt

theorem stays {P : Program} {H : Type} {enc : TypeId × Value → H} {W W' : World} (hl : laidOutB P = true) (hb : Below W.heap.size W W') : ∀ (ts : List TypeId) {vs : List Value} {ds : List (DataW H)} {ps : List MemPlace}, (ts.all fun t => P.readableRec t && decide (t < P.types.size)) = true →
    DataW.TrodAll enc P W 0 (fun _ => true) true ts vs ds ps → (∀ x ∈ ps, x.block < W.heap.size) → DataW.TrodAll enc P W' 0 (fun b => decide (b < W.heap.size)) true ts vs ds ps := by
  intro ts
  induction ts with
  | nil =>
    intro vs ds ps _ h _
    cases vs <;> cases ds <;> first | exact h | exact h.elim
  | cons t ts ih =>
    intro vs ds ps hr h hs
    obtain ⟨v, vs', d, ds', p, q, rfl, rfl, rfl, h1, h2⟩ := trodAll_cons h
    rw [List.all_cons, Bool.and_eq_true, Bool.and_eq_true, decide_eq_true_eq] at hr
    exact ⟨p, q, Below.trod hl hr.1.1 hr.1.2 h1 hb (fun x hx => hs x (List.mem_append_left _ hx)), ih hr.2 h2 (fun x hx => hs x (List.mem_append_right _ hx)), rfl⟩

theorem laidOut : laidOutB Try.prog = true := by kernel_rfl

abbrev oldA (W : World) : Nat → Prop := fun b => b < W.heap.size

theorem wf_inK {k : IntKind} {n : Int} (h : (Lit.int k n).wf = true) : inK k n := by
  cases k <;> simp [Lit.wf, IntKind.min, IntKind.max, IntKind.bits, IntKind.signed] at h <;> unfold inK <;> omega

section
variable {H : Type} {enc : TypeId × Value → H} {W : World} {base : Nat} {v : Value} {d : DataW H} {p : List MemPlace}

set_option maxRecDepth 100000 in
theorem open_posR (hval : Value.okWide Try.prog W .any base 23 v) (h : DataW.Trod enc Try.prog W 0 (fun _ => true) true 23 v d p) : ∃ a b : Int, R noRho (oldA W) W v (.agg [.int .i64 a, .int .i64 b]) ∧ inK .i64 a ∧ inK .i64 b := by
  obtain ⟨v0, v1, y0, y1, n, rfl, _, _, h0, h1⟩ := Go.Joins.open_agg2 Try.underlying23 (by kernel_rfl) (by kernel_rfl) hval h
  obtain ⟨a, ha, _, wa⟩ := DataW.trod_int Try.underlying3 h0
  obtain ⟨b, hb, _, wb⟩ := DataW.trod_int Try.underlying3 h1
  cases ha; cases hb
  refine ⟨a, b, .agg _ _ rfl (fun i x hx => ?_) (fun i hi => ?_), wf_inK wa, wf_inK wb⟩
  · match i, hx with
    | 0, hx => cases hx; exact .int _ _
    | 1, hx => cases hx; exact .int _ _
    | i + 2, hx => simp at hx
  · match i, hi with
    | 0, _ => rfl
    | 1, _ => rfl

end
end Go.Proofs.Ytefbgdnobnemkaa.AM
