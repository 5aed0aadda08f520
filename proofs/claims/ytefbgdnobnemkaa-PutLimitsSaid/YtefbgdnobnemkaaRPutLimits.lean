/-
  Just how much may be put at once.
  For every input; nothing is asked of it.
-/
import Derived.Test.YtefbgdnobnemkaaR3
import Derived.Test.YtefbgdnobnemkaaF55
import Derived.Test.YtefbgdnobnemkaaQPutLimits
namespace Go.Proofs.Ytefbgdnobnemkaa
open Go Go.RowKit Go.ChangeShapes Go.WideShapes Go.ChangeAt AM

namespace PutLimitsRow
set_option maxRecDepth 100000 in
theorem lifted (os : Os) (started : os.Started) (H : Type) (enc : TypeId × Value → H) :
    ReturnsInHanded {} Try.checked os 18 .any (Rows.putLimitsSpec.pre6 enc Try.prog Try.f18 Rows.putLimitsRow.domain false) (Rows.putLimitsSpec.post enc Try.prog Try.f18 false true false false) := by
  refine returnsInHanded_of_change_sized (C := Try.checked) (by kernel_rfl) started (by kernel_rfl) Try.func18
    (ChangeSpec.witness6 (enc := enc) (C := Try.checked) false ⟨#[], #[.int .u16 0, .int .u8 0, .int .i8 0], []⟩ 8 (by kernel_rfl) (by kernel_rfl) (by kernel_rfl) (by kernel_rfl)) ?_
  intro W base args ds gs before hval0 hW _ hwt _
  have hval : ∀ (j : Nat) t v, Try.f18.params[j]? = some t → args[j]? = some v → Value.okWide Try.prog W .any base t v := hval0
  have hW' := hW
  obtain ⟨p, q, hA0, hV, rfl, hfz, hnd⟩ := hW
  have hA : DataW.TrodAll enc Try.prog W 0 (fun _ => true) true Try.f18.params.toList args.toList ds p := hA0
  obtain ⟨rfl, rfl⟩ := trodVars_none hV
  have hlt : ∀ x ∈ p, x.block < W.heap.size := fun x hx => by simpa using hW'.lt x (by simp [hx])
  have hAk := hA
  have hwt' := fun (j : Nat) t d ht hd n hn => of_decide_eq_true (List.all_eq_true.1 hwt n (DataW.weights_mem_each (j := j) (t := t) (d := d) ht hd n hn))
  clear hwt
  rw [Try.params18] at hA hval hwt'
  obtain ⟨v0, vs0, d0, ds0, mp0, mq0, hargs, rfl, rfl, h0, r0⟩ := trodAll_cons hA
  obtain ⟨v1, vs1, d1, ds1, mp1, mq1, rfl, rfl, rfl, h1, r1⟩ := trodAll_cons r0
  obtain ⟨v2, vs2, d2, ds2, mp2, mq2, rfl, rfl, rfl, h2, r2⟩ := trodAll_cons r1
  obtain ⟨rfl, rfl, rfl⟩ := trodAll_nil r2
  obtain rfl : args = #[v0, v1, v2] := by cases args; simp_all
  obtain ⟨a0, hv0, _, _, hw0⟩ := open_int Try.underlying30 (hval 0 30 v0 rfl rfl) h0
  have hR0 : R noRho (oldA W) W v0 (.int .u16 a0) := by rw [hv0]; exact .int _ a0
  have hi0 : inK .u16 a0 := wf_inK hw0
  obtain ⟨a1, hv1, _, _, hw1⟩ := open_int Try.underlying5 (hval 1 5 v1 rfl rfl) h1
  have hR1 : R noRho (oldA W) W v1 (.int .u8 a1) := by rw [hv1]; exact .int _ a1
  have hi1 : inK .u8 a1 := wf_inK hw1
  obtain ⟨a2, hv2, _, _, hw2⟩ := open_int Try.underlying81 (hval 2 81 v2 rfl rfl) h2
  have hR2 : R noRho (oldA W) W v2 (.int .i8 a2) := by rw [hv2]; exact .int _ a2
  have hi2 : inK .i8 a2 := wf_inK hw2
  refine ((p18 a0 a1 a2 hi0 hi1 hi2).2.2 (oldA W) W #[v0, v1, v2] (fun _ h => h) rfl (fun i x hx => ?_)).mono fun e W' ⟨v, he, hv, hb⟩ => ?_
  · match i, hx with
    | 0, hx => cases hx; exact hR0
    | 1, hx => cases hx; exact hR1
    | 2, hx => cases hx; exact hR2
    | i + 3, hx => simp at hx
  subst he
  rw [hv.bool_inv]
  refine ⟨_, rfl, _, _, _, [], _, [], hW', ?_, stays laidOut hb _ (by kernel_rfl) hAk hlt, rfl, hb.frame _, fun h => by cases h⟩
  exact trodAll_cons_mk (shut_bool Try.underlying4 _) trodAll_mk0

theorem over : Rows.putLimitsRow.holds Try.pinned (OpenSpec.ofChange Rows.putLimitsSpec) :=
  OpenClaim.holds_of_wide 18 Try.f18 rfl rfl rfl rfl rfl rfl rfl ⟨rfl, rfl, rfl, rfl, rfl⟩ rfl rfl rfl rfl rfl a1 Try.func18 a2 a3 a4
    (fun os started H enc _ => lifted os started H enc)
end PutLimitsRow

theorem putLimits_proved : Rows.PutLimitsSaid := PutLimitsRow.over
#print axioms putLimits_proved
end Go.Proofs.Ytefbgdnobnemkaa
