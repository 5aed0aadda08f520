/-
  What was cut, put where it was cut from, makes the text what it was, of bytes and of lines.
  For every input; nothing is asked of it.
-/
import Derived.Test.YtefbgdnobnemkaaR3
import Derived.Test.YtefbgdnobnemkaaF58
import Derived.Test.YtefbgdnobnemkaaQPutBack
namespace Go.Proofs.Ytefbgdnobnemkaa
open Go Go.RowKit Go.ChangeShapes Go.WideShapes Go.ChangeAt AM

namespace PutBackRow
set_option maxRecDepth 100000 in
theorem lifted (os : Os) (started : os.Started) (H : Type) (enc : TypeId × Value → H) :
    ReturnsInHanded {} Try.checked os 17 .any (Rows.putBackSpec.pre6 enc Try.prog Try.f17 Rows.putBackRow.domain false) (Rows.putBackSpec.post enc Try.prog Try.f17 false true false false) := by
  refine returnsInHanded_of_change_sized (C := Try.checked) (by kernel_rfl) started (by kernel_rfl) Try.func17
    (ChangeSpec.witness6 (enc := enc) (C := Try.checked) false ⟨#[], #[.slice none 0 0, .int .u8 0, .int .u16 0, .int .u16 0, .int .u16 0, .int .u16 0], []⟩ 8 (by kernel_rfl) (by kernel_rfl) (by kernel_rfl) (by kernel_rfl)) ?_
  intro W base args ds gs before hval0 hW _ hwt _
  have hval : ∀ (j : Nat) t v, Try.f17.params[j]? = some t → args[j]? = some v → Value.okWide Try.prog W .any base t v := hval0
  have hW' := hW
  obtain ⟨p, q, hA0, hV, rfl, hfz, hnd⟩ := hW
  have hA : DataW.TrodAll enc Try.prog W 0 (fun _ => true) true Try.f17.params.toList args.toList ds p := hA0
  obtain ⟨rfl, rfl⟩ := trodVars_none hV
  have hlt : ∀ x ∈ p, x.block < W.heap.size := fun x hx => by simpa using hW'.lt x (by simp [hx])
  have hAk := hA
  have hwt' := fun (j : Nat) t d ht hd n hn => of_decide_eq_true (List.all_eq_true.1 hwt n (DataW.weights_mem_each (j := j) (t := t) (d := d) ht hd n hn))
  clear hwt
  rw [Try.params17] at hA hval hwt'
  obtain ⟨v0, vs0, d0, ds0, mp0, mq0, hargs, rfl, rfl, h0, r0⟩ := trodAll_cons hA
  obtain ⟨v1, vs1, d1, ds1, mp1, mq1, rfl, rfl, rfl, h1, r1⟩ := trodAll_cons r0
  obtain ⟨v2, vs2, d2, ds2, mp2, mq2, rfl, rfl, rfl, h2, r2⟩ := trodAll_cons r1
  obtain ⟨v3, vs3, d3, ds3, mp3, mq3, rfl, rfl, rfl, h3, r3⟩ := trodAll_cons r2
  obtain ⟨v4, vs4, d4, ds4, mp4, mq4, rfl, rfl, rfl, h4, r4⟩ := trodAll_cons r3
  obtain ⟨v5, vs5, d5, ds5, mp5, mq5, rfl, rfl, rfl, h5, r5⟩ := trodAll_cons r4
  obtain ⟨rfl, rfl, rfl⟩ := trodAll_nil r5
  obtain rfl : args = #[v0, v1, v2, v3, v4, v5] := by cases args; simp_all
  obtain ⟨a0, hR0, hl0, hb0⟩ := open_strsR Try.underlying29 Try.underlying9 (by kernel_rfl) (of_decide_eq_true (by kernel_rfl)) (hval 0 29 v0 rfl rfl) h0 (hwt' 0 29 d0 rfl rfl)
  obtain ⟨a1, hv1, _, _, hw1⟩ := open_int Try.underlying5 (hval 1 5 v1 rfl rfl) h1
  have hR1 : R noRho (oldA W) W v1 (.int .u8 a1) := by rw [hv1]; exact .int _ a1
  have hi1 : inK .u8 a1 := wf_inK hw1
  obtain ⟨a2, hv2, _, _, hw2⟩ := open_int Try.underlying30 (hval 2 30 v2 rfl rfl) h2
  have hR2 : R noRho (oldA W) W v2 (.int .u16 a2) := by rw [hv2]; exact .int _ a2
  have hi2 : inK .u16 a2 := wf_inK hw2
  obtain ⟨a3, hv3, _, _, hw3⟩ := open_int Try.underlying30 (hval 3 30 v3 rfl rfl) h3
  have hR3 : R noRho (oldA W) W v3 (.int .u16 a3) := by rw [hv3]; exact .int _ a3
  have hi3 : inK .u16 a3 := wf_inK hw3
  obtain ⟨a4, hv4, _, _, hw4⟩ := open_int Try.underlying30 (hval 4 30 v4 rfl rfl) h4
  have hR4 : R noRho (oldA W) W v4 (.int .u16 a4) := by rw [hv4]; exact .int _ a4
  have hi4 : inK .u16 a4 := wf_inK hw4
  obtain ⟨a5, hv5, _, _, hw5⟩ := open_int Try.underlying30 (hval 5 30 v5 rfl rfl) h5
  have hR5 : R noRho (oldA W) W v5 (.int .u16 a5) := by rw [hv5]; exact .int _ a5
  have hi5 : inK .u16 a5 := wf_inK hw5
  refine ((p17 a0 a1 a2 a3 a4 a5 hl0 hb0 hi1 hi2 hi3 hi4 hi5).2.2 (oldA W) W #[v0, v1, v2, v3, v4, v5] (fun _ h => h) rfl (fun i x hx => ?_)).mono fun e W' ⟨v, he, hv, hb⟩ => ?_
  · match i, hx with
    | 0, hx => cases hx; exact hR0
    | 1, hx => cases hx; exact hR1
    | 2, hx => cases hx; exact hR2
    | 3, hx => cases hx; exact hR3
    | 4, hx => cases hx; exact hR4
    | 5, hx => cases hx; exact hR5
    | i + 6, hx => simp at hx
  subst he
  rw [hv.bool_inv]
  refine ⟨_, rfl, _, _, _, [], _, [], hW', ?_, stays laidOut hb _ (by kernel_rfl) hAk hlt, rfl, hb.frame _, fun h => by cases h⟩
  exact trodAll_cons_mk (shut_bool Try.underlying4 _) trodAll_mk0

theorem over : Rows.putBackRow.holds Try.pinned (OpenSpec.ofChange Rows.putBackSpec) :=
  OpenClaim.holds_of_wide 17 Try.f17 rfl rfl rfl rfl rfl rfl rfl ⟨rfl, rfl, rfl, rfl, rfl⟩ rfl rfl rfl rfl rfl a1 Try.func17 a2 a3 a4
    (fun os started H enc _ => lifted os started H enc)
end PutBackRow

theorem putBack_proved : Rows.PutBackSaid := PutBackRow.over
#print axioms putBack_proved
end Go.Proofs.Ytefbgdnobnemkaa
