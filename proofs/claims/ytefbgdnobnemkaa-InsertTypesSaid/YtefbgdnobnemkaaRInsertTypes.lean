/-
  Any key, at any place, in any mode, is the document's change, or none.
  For every input; nothing is asked of it.
-/
import Derived.Test.YtefbgdnobnemkaaRR
import Derived.Test.YtefbgdnobnemkaaG3
namespace Go.Proofs.Ytefbgdnobnemkaa
open Go Go.RowKit Go.ChangeShapes Go.WideShapes Go.ChangeAt AM

namespace InsertTypesRow
set_option maxRecDepth 100000 in
theorem lifted (os : Os) (started : os.Started) (H : Type) (enc : TypeId × Value → H) :
    ReturnsInHanded {} Try.checked os 7 .any (Rows.insertTypesSpec.pre6 enc Try.prog Try.f7 Rows.insertTypesRow.domain false) (Rows.insertTypesSpec.post enc Try.prog Try.f7 false true false false) := by
  refine returnsInHanded_of_change_sized (C := Try.checked) (by kernel_rfl) started (by kernel_rfl) Try.func7
    (ChangeSpec.witness6 (enc := enc) (C := Try.checked) false ⟨#[], #[.slice none 0 0, .agg #[.int .i64 0, .int .i64 0], .agg #[.int .i64 0, .int .i64 0], .int .u16 0, .int .u16 0, .int .u16 0, .int .u16 0, .int .i64 0, .int .u8 0], []⟩ 8 (by kernel_rfl) (by kernel_rfl) (by kernel_rfl) (by kernel_rfl)) ?_
  intro W base args ds gs before hval0 hW _ hwt _
  have hval : ∀ (j : Nat) t v, Try.f7.params[j]? = some t → args[j]? = some v → Value.okWide Try.prog W .any base t v := hval0
  have hW' := hW
  obtain ⟨p, q, hA0, hV, rfl, hfz, hnd⟩ := hW
  have hA : DataW.TrodAll enc Try.prog W 0 (fun _ => true) true Try.f7.params.toList args.toList ds p := hA0
  obtain ⟨rfl, rfl⟩ := trodVars_none hV
  have hlt : ∀ x ∈ p, x.block < W.heap.size := fun x hx => by simpa using hW'.lt x (by simp [hx])
  have hAk := hA
  have hwt' := fun (j : Nat) t d ht hd n hn => of_decide_eq_true (List.all_eq_true.1 hwt n (DataW.weights_mem_each (j := j) (t := t) (d := d) ht hd n hn))
  clear hwt
  rw [Try.params7] at hA hval hwt'
  obtain ⟨v0, vs0, d0, ds0, mp0, mq0, hargs, rfl, rfl, h0, r0⟩ := trodAll_cons hA
  obtain ⟨v1, vs1, d1, ds1, mp1, mq1, rfl, rfl, rfl, h1, r1⟩ := trodAll_cons r0
  obtain ⟨v2, vs2, d2, ds2, mp2, mq2, rfl, rfl, rfl, h2, r2⟩ := trodAll_cons r1
  obtain ⟨v3, vs3, d3, ds3, mp3, mq3, rfl, rfl, rfl, h3, r3⟩ := trodAll_cons r2
  obtain ⟨v4, vs4, d4, ds4, mp4, mq4, rfl, rfl, rfl, h4, r4⟩ := trodAll_cons r3
  obtain ⟨v5, vs5, d5, ds5, mp5, mq5, rfl, rfl, rfl, h5, r5⟩ := trodAll_cons r4
  obtain ⟨v6, vs6, d6, ds6, mp6, mq6, rfl, rfl, rfl, h6, r6⟩ := trodAll_cons r5
  obtain ⟨v7, vs7, d7, ds7, mp7, mq7, rfl, rfl, rfl, h7, r7⟩ := trodAll_cons r6
  obtain ⟨v8, vs8, d8, ds8, mp8, mq8, rfl, rfl, rfl, h8, r8⟩ := trodAll_cons r7
  obtain ⟨rfl, rfl, rfl⟩ := trodAll_nil r8
  obtain rfl : args = #[v0, v1, v2, v3, v4, v5, v6, v7, v8] := by cases args; simp_all
  obtain ⟨a0, hR0, hl0, hb0⟩ := open_strsR Try.underlying29 Try.underlying9 (by kernel_rfl) (of_decide_eq_true (by kernel_rfl)) (hval 0 29 v0 rfl rfl) h0 (hwt' 0 29 d0 rfl rfl)
  obtain ⟨a1, b1, hR1, ha1, hb1⟩ := open_posR (hval 1 23 v1 rfl rfl) h1
  obtain ⟨a2, b2, hR2, ha2, hb2⟩ := open_posR (hval 2 23 v2 rfl rfl) h2
  obtain ⟨a3, hv3, _, _, hw3⟩ := open_int Try.underlying30 (hval 3 30 v3 rfl rfl) h3
  have hR3 : R noRho (oldA W) W v3 (.int .u16 a3) := by rw [hv3]; exact .int _ a3
  have hi3 : inK .u16 a3 := wf_inK hw3
  obtain ⟨a4, hv4, _, _, hw4⟩ := open_int Try.underlying30 (hval 4 30 v4 rfl rfl) h4
  have hR4 : R noRho (oldA W) W v4 (.int .u16 a4) := by rw [hv4]; exact .int _ a4
  have hi4 : inK .u16 a4 := wf_inK hw4
  obtain ⟨a5, hv5, _, _, hw5⟩ := open_int Try.underlying30 (hval 5 30 v5 rfl rfl) h5
  have hR5 : R noRho (oldA W) W v5 (.int .u16 a5) := by rw [hv5]; exact .int _ a5
  have hi5 : inK .u16 a5 := wf_inK hw5
  obtain ⟨a6, hv6, _, _, hw6⟩ := open_int Try.underlying30 (hval 6 30 v6 rfl rfl) h6
  have hR6 : R noRho (oldA W) W v6 (.int .u16 a6) := by rw [hv6]; exact .int _ a6
  have hi6 : inK .u16 a6 := wf_inK hw6
  obtain ⟨a7, hv7, _, _, hw7⟩ := open_int Try.underlying3 (hval 7 3 v7 rfl rfl) h7
  have hR7 : R noRho (oldA W) W v7 (.int .i64 a7) := by rw [hv7]; exact .int _ a7
  have hi7 : inK .i64 a7 := wf_inK hw7
  obtain ⟨a8, hv8, _, _, hw8⟩ := open_int Try.underlying5 (hval 8 5 v8 rfl rfl) h8
  have hR8 : R noRho (oldA W) W v8 (.int .u8 a8) := by rw [hv8]; exact .int _ a8
  have hi8 : inK .u8 a8 := wf_inK hw8
  refine ((p7 a0 a1 b1 a2 b2 a3 a4 a5 a6 a7 a8 hl0 hb0 hi3 hi4 hi5 hi6 hi8).2.2 (oldA W) W #[v0, v1, v2, v3, v4, v5, v6, v7, v8] (fun _ h => h) rfl (fun i x hx => ?_)).mono fun e W' ⟨v, he, hv, hb⟩ => ?_
  · match i, hx with
    | 0, hx => cases hx; exact hR0
    | 1, hx => cases hx; exact hR1
    | 2, hx => cases hx; exact hR2
    | 3, hx => cases hx; exact hR3
    | 4, hx => cases hx; exact hR4
    | 5, hx => cases hx; exact hR5
    | 6, hx => cases hx; exact hR6
    | 7, hx => cases hx; exact hR7
    | 8, hx => cases hx; exact hR8
    | i + 9, hx => simp at hx
  subst he
  rw [hv.bool_inv]
  refine ⟨_, rfl, _, _, _, [], _, [], hW', ?_, stays laidOut hb _ (by kernel_rfl) hAk hlt, rfl, hb.frame _, fun h => by cases h⟩
  exact trodAll_cons_mk (shut_bool Try.underlying4 _) trodAll_mk0

theorem a1 : Try.prog.funcNamed "foolscap/foolscaplaw31.InsertTypes" = some 7 := by kernel_rfl
theorem a2 : joinedFacts Try.prog 7 Try.f7 Rows.insertTypesSpec Rows.insertTypesRow = true := by kernel_rfl
theorem a3 : Try.f7.isInstance Try.prog Rows.insertTypesRow.origin Rows.insertTypesRow.targs := of_decide_eq_true (by kernel_rfl)
theorem a4 : Try.f7.isWrapper Try.prog Rows.insertTypesRow.wrapper Rows.insertTypesRow.mainSum := by unfold Func.isWrapper; first | (rw [if_pos (by decide +kernel)]; kernel_rfl) | (rw [if_neg (by decide +kernel)]; exact ⟨rfl, rfl⟩)

theorem over : Rows.insertTypesRow.holds Try.pinned (OpenSpec.ofChange Rows.insertTypesSpec) :=
  OpenClaim.holds_of_wide 7 Try.f7 rfl rfl rfl rfl rfl rfl rfl ⟨rfl, rfl, rfl, rfl, rfl⟩ rfl rfl rfl rfl rfl a1 Try.func7 a2 a3 a4
    (fun os started H enc _ => lifted os started H enc)
end InsertTypesRow

theorem insertTypes_proved : Rows.InsertTypesSaid := InsertTypesRow.over
#print axioms insertTypes_proved
end Go.Proofs.Ytefbgdnobnemkaa
