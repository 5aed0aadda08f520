/-
  The cells of a text come one behind another, all of them, or as many as are asked for.
  For every input; nothing is asked of it.
-/
import Derived.Test.YtefbgdnobnemkaaR3
import Derived.Test.YtefbgdnobnemkaaI3
import Derived.Test.YtefbgdnobnemkaaQSpanCells
namespace Go.Proofs.Ytefbgdnobnemkaa
open Go Go.RowKit Go.ChangeShapes Go.WideShapes Go.ChangeAt AM

namespace SpanCellsRow
set_option maxRecDepth 100000 in
theorem lifted (os : Os) (started : os.Started) (H : Type) (enc : TypeId × Value → H) :
    ReturnsInHanded {} Try.checked os 6 .any (Rows.spanCellsSpec.pre6 enc Try.prog Try.f6 Rows.spanCellsRow.domain false) (Rows.spanCellsSpec.post enc Try.prog Try.f6 false true false false) := by
  refine returnsInHanded_of_change_sized (C := Try.checked) (by kernel_rfl) started (by kernel_rfl) Try.func6
    (ChangeSpec.witness6 (enc := enc) (C := Try.checked) false ⟨#[], #[.slice none 0 0, .int .u8 0], []⟩ 8 (by kernel_rfl) (by kernel_rfl) (by kernel_rfl) (by kernel_rfl)) ?_
  intro W base args ds gs before hval0 hW _ hwt _
  have hval : ∀ (j : Nat) t v, Try.f6.params[j]? = some t → args[j]? = some v → Value.okWide Try.prog W .any base t v := hval0
  have hW' := hW
  obtain ⟨p, q, hA0, hV, rfl, hfz, hnd⟩ := hW
  have hA : DataW.TrodAll enc Try.prog W 0 (fun _ => true) true Try.f6.params.toList args.toList ds p := hA0
  obtain ⟨rfl, rfl⟩ := trodVars_none hV
  have hlt : ∀ x ∈ p, x.block < W.heap.size := fun x hx => by simpa using hW'.lt x (by simp [hx])
  have hAk := hA
  have hwt' := fun (j : Nat) t d ht hd n hn => of_decide_eq_true (List.all_eq_true.1 hwt n (DataW.weights_mem_each (j := j) (t := t) (d := d) ht hd n hn))
  clear hwt
  rw [Try.params6] at hA hval hwt'
  obtain ⟨v0, vs0, d0, ds0, mp0, mq0, hargs, rfl, rfl, h0, r0⟩ := trodAll_cons hA
  obtain ⟨v1, vs1, d1, ds1, mp1, mq1, rfl, rfl, rfl, h1, r1⟩ := trodAll_cons r0
  obtain ⟨rfl, rfl, rfl⟩ := trodAll_nil r1
  obtain rfl : args = #[v0, v1] := by cases args; simp_all
  obtain ⟨a0, hR0, hl0, hb0⟩ := open_strsR Try.underlying29 Try.underlying9 (by kernel_rfl) (of_decide_eq_true (by kernel_rfl)) (hval 0 29 v0 rfl rfl) h0 (hwt' 0 29 d0 rfl rfl)
  obtain ⟨a1, hv1, _, _, hw1⟩ := open_int Try.underlying5 (hval 1 5 v1 rfl rfl) h1
  have hR1 : R noRho (oldA W) W v1 (.int .u8 a1) := by rw [hv1]; exact .int _ a1
  have hi1 : inK .u8 a1 := wf_inK hw1
  refine ((p6 a0 a1 hl0 hb0 hi1).2.2 (oldA W) W #[v0, v1] (fun _ h => h) rfl (fun i x hx => ?_)).mono fun e W' ⟨v, he, hv, hb⟩ => ?_
  · match i, hx with
    | 0, hx => cases hx; exact hR0
    | 1, hx => cases hx; exact hR1
    | i + 2, hx => simp at hx
  subst he
  rw [hv.bool_inv]
  refine ⟨_, rfl, _, _, _, [], _, [], hW', ?_, stays laidOut hb _ (by kernel_rfl) hAk hlt, rfl, hb.frame _, fun h => by cases h⟩
  exact trodAll_cons_mk (shut_bool Try.underlying4 _) trodAll_mk0

theorem over : Rows.spanCellsRow.holds Try.pinned (OpenSpec.ofChange Rows.spanCellsSpec) :=
  OpenClaim.holds_of_wide 6 Try.f6 rfl rfl rfl rfl rfl rfl rfl ⟨rfl, rfl, rfl, rfl, rfl⟩ rfl rfl rfl rfl rfl a1 Try.func6 a2 a3 a4
    (fun os started H enc _ => lifted os started H enc)
end SpanCellsRow

theorem spanCells_proved : Rows.SpanCellsSaid := SpanCellsRow.over
#print axioms spanCells_proved
end Go.Proofs.Ytefbgdnobnemkaa
