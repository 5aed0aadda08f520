/-
  Of any two places each is ahead of the other as the document says.
  For every input; nothing is asked of it.
-/
import Derived.Test.YtefbgdnobnemkaaR1
namespace Go.Proofs.Ytefbgdnobnemkaa
open Go Go.RowKit Go.ChangeShapes Go.WideShapes Go.ChangeAt AM

namespace SpanOrdersRow
set_option maxRecDepth 100000 in
theorem lifted (os : Os) (started : os.Started) (H : Type) (enc : TypeId × Value → H) :
    ReturnsInHanded {} Try.checked os 3 .any (Rows.spanOrdersSpec.pre6 enc Try.prog Try.f3 Rows.spanOrdersRow.domain false) (Rows.spanOrdersSpec.post enc Try.prog Try.f3 false true false false) := by
  refine returnsInHanded_of_change (C := Try.checked) (by kernel_rfl) started (by kernel_rfl) Try.func3
    (ChangeSpec.witness6 (enc := enc) (C := Try.checked) false ⟨#[], #[.agg #[.int .i64 0, .int .i64 0], .agg #[.int .i64 0, .int .i64 0], .bool false], []⟩ 8 (by kernel_rfl) (by kernel_rfl) (by kernel_rfl) (by kernel_rfl)) ?_
  intro W base args ds gs before hval0 hW hcnd _
  have hval : ∀ (j : Nat) t v, Try.f3.params[j]? = some t → args[j]? = some v → Value.okWide Try.prog W .any base t v := hval0
  have hW' := hW
  obtain ⟨p, q, hA0, hV, rfl, hfz, hnd⟩ := hW
  have hA : DataW.TrodAll enc Try.prog W 0 (fun _ => true) true Try.f3.params.toList args.toList ds p := hA0
  obtain ⟨rfl, rfl⟩ := trodVars_none hV
  have hlt : ∀ x ∈ p, x.block < W.heap.size := fun x hx => by simpa using hW'.lt x (by simp [hx])
  have hAk := hA
  rw [Try.params3] at hA hval
  obtain ⟨v0, vs0, d0, ds0, p0, q0, hargs, rfl, rfl, h0, r0⟩ := trodAll_cons hA
  obtain ⟨v1, vs1, d1, ds1, p1, q1, rfl, rfl, rfl, h1, r1⟩ := trodAll_cons r0
  obtain ⟨v2, vs2, d2, ds2, p2, q2, rfl, rfl, rfl, h2, r2⟩ := trodAll_cons r1
  obtain ⟨rfl, rfl, rfl⟩ := trodAll_nil r2
  obtain rfl : args = #[v0, v1, v2] := by cases args; simp_all
  obtain ⟨a, b, hR0, _, _⟩ := open_posR (hval 0 23 v0 rfl rfl) h0
  obtain ⟨c, d, hR1, _, _⟩ := open_posR (hval 1 23 v1 rfl rfl) h1
  obtain ⟨line, hv2, _, _⟩ := open_bool Try.underlying4 (hval 2 4 v2 rfl rfl) h2
  have hR2 : R noRho (oldA W) W v2 (.bool line) := by rw [hv2]; exact .bool line
  refine ((p3 a b c d line).2.2 (oldA W) W #[v0, v1, v2] (fun _ h => h) rfl (fun i x hx => ?_)).mono fun e W' ⟨v, he, hv, hb⟩ => ?_
  · match i, hx with
    | 0, hx => cases hx; exact hR0
    | 1, hx => cases hx; exact hR1
    | 2, hx => cases hx; exact hR2
    | i + 3, hx => simp at hx
  subst he
  rw [hv.bool_inv]
  refine ⟨_, rfl, _, _, _, [], _, [], hW', ?_, stays laidOut hb _ (by kernel_rfl) hAk hlt, rfl, hb.frame _, fun h => by cases h⟩
  exact trodAll_cons_mk (shut_bool Try.underlying4 _) trodAll_mk0

theorem a1 : Try.prog.funcNamed "foolscap/foolscaplaw6.SpanOrders" = some 3 := by kernel_rfl
theorem a2 : joinedFacts Try.prog 3 Try.f3 Rows.spanOrdersSpec Rows.spanOrdersRow = true := by kernel_rfl
theorem a3 : Try.f3.isInstance Try.prog Rows.spanOrdersRow.origin Rows.spanOrdersRow.targs := of_decide_eq_true (by kernel_rfl)
theorem a4 : Try.f3.isWrapper Try.prog Rows.spanOrdersRow.wrapper Rows.spanOrdersRow.mainSum := by unfold Func.isWrapper; first | (rw [if_pos (by decide +kernel)]; kernel_rfl) | (rw [if_neg (by decide +kernel)]; exact ⟨rfl, rfl⟩)

theorem over : Rows.spanOrdersRow.holds Try.pinned (OpenSpec.ofChange Rows.spanOrdersSpec) :=
  OpenClaim.holds_of_wide 3 Try.f3 rfl rfl rfl rfl rfl rfl rfl ⟨rfl, rfl, rfl, rfl, rfl⟩ rfl rfl rfl rfl rfl a1 Try.func3 a2 a3 a4
    (fun os started H enc _ => lifted os started H enc)
end SpanOrdersRow

theorem spanOrders_proved : Rows.SpanOrdersSaid := SpanOrdersRow.over
#print axioms spanOrders_proved
end Go.Proofs.Ytefbgdnobnemkaa
