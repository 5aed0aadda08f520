/-
  A text comes into any lines at any column as the document says, or not at all.
  For every input; nothing is asked of it.
-/
import Derived.Test.YtefbgdnobnemkaaR3
import Derived.Test.YtefbgdnobnemkaaF61
import Derived.Test.YtefbgdnobnemkaaQInsertBeside
namespace Go.Proofs.Ytefbgdnobnemkaa
open Go Go.RowKit Go.ChangeShapes Go.WideShapes Go.ChangeAt AM

namespace InsertBesideRow
set_option maxRecDepth 100000 in
theorem lifted (os : Os) (started : os.Started) (H : Type) (enc : TypeId × Value → H) :
    ReturnsInHanded {} Try.checked os 13 .any (Rows.insertBesideSpec.pre6 enc Try.prog Try.f13 Rows.insertBesideRow.domain false) (Rows.insertBesideSpec.post enc Try.prog Try.f13 false true false false) := by
  refine returnsInHanded_of_change_sized (C := Try.checked) (by kernel_rfl) started (by kernel_rfl) Try.func13
    (ChangeSpec.witness6 (enc := enc) (C := Try.checked) false ⟨#[], #[.slice none 0 0, .int .i64 0, .int .i64 0, .int .i64 0, .string ⟨#[]⟩, .bool false], []⟩ 8 (by kernel_rfl) (by kernel_rfl) (by kernel_rfl) (by kernel_rfl)) ?_
  intro W base args ds gs before hval0 hW _ hwt _
  have hval : ∀ (j : Nat) t v, Try.f13.params[j]? = some t → args[j]? = some v → Value.okWide Try.prog W .any base t v := hval0
  have hW' := hW
  obtain ⟨p, q, hA0, hV, rfl, hfz, hnd⟩ := hW
  have hA : DataW.TrodAll enc Try.prog W 0 (fun _ => true) true Try.f13.params.toList args.toList ds p := hA0
  obtain ⟨rfl, rfl⟩ := trodVars_none hV
  have hlt : ∀ x ∈ p, x.block < W.heap.size := fun x hx => by simpa using hW'.lt x (by simp [hx])
  have hAk := hA
  have hwt' := fun (j : Nat) t d ht hd n hn => of_decide_eq_true (List.all_eq_true.1 hwt n (DataW.weights_mem_each (j := j) (t := t) (d := d) ht hd n hn))
  clear hwt
  rw [Try.params13] at hA hval hwt'
  obtain ⟨v0, vs0, d0, ds0, mp0, mq0, hargs, rfl, rfl, h0, r0⟩ := trodAll_cons hA
  obtain ⟨v1, vs1, d1, ds1, mp1, mq1, rfl, rfl, rfl, h1, r1⟩ := trodAll_cons r0
  obtain ⟨v2, vs2, d2, ds2, mp2, mq2, rfl, rfl, rfl, h2, r2⟩ := trodAll_cons r1
  obtain ⟨v3, vs3, d3, ds3, mp3, mq3, rfl, rfl, rfl, h3, r3⟩ := trodAll_cons r2
  obtain ⟨v4, vs4, d4, ds4, mp4, mq4, rfl, rfl, rfl, h4, r4⟩ := trodAll_cons r3
  obtain ⟨v5, vs5, d5, ds5, mp5, mq5, rfl, rfl, rfl, h5, r5⟩ := trodAll_cons r4
  obtain ⟨rfl, rfl, rfl⟩ := trodAll_nil r5
  obtain rfl : args = #[v0, v1, v2, v3, v4, v5] := by cases args; simp_all
  obtain ⟨a0, hR0, hl0, hb0⟩ := open_strsR Try.underlying29 Try.underlying9 (by kernel_rfl) (of_decide_eq_true (by kernel_rfl)) (hval 0 29 v0 rfl rfl) h0 (hwt' 0 29 d0 rfl rfl)
  obtain ⟨a1, hv1, _, _, hw1⟩ := open_int Try.underlying3 (hval 1 3 v1 rfl rfl) h1
  have hR1 : R noRho (oldA W) W v1 (.int .i64 a1) := by rw [hv1]; exact .int _ a1
  have hi1 : inK .i64 a1 := wf_inK hw1
  obtain ⟨a2, hv2, _, _, hw2⟩ := open_int Try.underlying3 (hval 2 3 v2 rfl rfl) h2
  have hR2 : R noRho (oldA W) W v2 (.int .i64 a2) := by rw [hv2]; exact .int _ a2
  have hi2 : inK .i64 a2 := wf_inK hw2
  obtain ⟨a3, hv3, _, _, hw3⟩ := open_int Try.underlying3 (hval 3 3 v3 rfl rfl) h3
  have hR3 : R noRho (oldA W) W v3 (.int .i64 a3) := by rw [hv3]; exact .int _ a3
  have hi3 : inK .i64 a3 := wf_inK hw3
  obtain ⟨a4, hR4, hl4⟩ := open_strR Try.underlying9 (hval 4 9 v4 rfl rfl) h4 (hwt' 4 9 d4 rfl rfl)
  obtain ⟨a5, hv5, _, _⟩ := open_bool Try.underlying4 (hval 5 4 v5 rfl rfl) h5
  have hR5 : R noRho (oldA W) W v5 (.bool a5) := by rw [hv5]; exact .bool a5
  refine ((p13 a0 a1 a2 a3 a4 a5 hl0 hb0 hl4 hi1 hi2 hi3).2.2 (oldA W) W #[v0, v1, v2, v3, v4, v5] (fun _ h => h) rfl (fun i x hx => ?_)).mono fun e W' ⟨v, he, hv, hb⟩ => ?_
  · match i, hx with
    | 0, hx => cases hx; exact hR0
    | 1, hx => cases hx; exact hR1
    | 2, hx => cases hx; exact hR2
    | 3, hx => cases hx; exact hR3
    | 4, hx => cases hx; exact hR4
    | 5, hx => cases hx; exact hR5
    | i + 6, hx => simp at hx
  subst he
  rw [hv.bool_inv]
  refine ⟨_, rfl, _, _, _, [], _, [], hW', ?_, stays laidOut hb _ (by kernel_rfl) hAk hlt, rfl, hb.frame _, fun h => by cases h⟩
  exact trodAll_cons_mk (shut_bool Try.underlying4 _) trodAll_mk0

theorem over : Rows.insertBesideRow.holds Try.pinned (OpenSpec.ofChange Rows.insertBesideSpec) :=
  OpenClaim.holds_of_wide 13 Try.f13 rfl rfl rfl rfl rfl rfl rfl ⟨rfl, rfl, rfl, rfl, rfl⟩ rfl rfl rfl rfl rfl a1 Try.func13 a2 a3 a4
    (fun os started H enc _ => lifted os started H enc)
end InsertBesideRow

theorem insertBeside_proved : Rows.InsertBesideSaid := InsertBesideRow.over
#print axioms insertBeside_proved
end Go.Proofs.Ytefbgdnobnemkaa
