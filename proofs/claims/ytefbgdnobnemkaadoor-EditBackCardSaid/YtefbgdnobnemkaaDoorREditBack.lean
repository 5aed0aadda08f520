/-
  What was shifted to the right comes back by the left, and what was cased twice is as it was.
  For every input; nothing is asked of it. The card ties the two listed tables of the library to the program's text.
-/
import Derived.Test.YtefbgdnobnemkaaDoorR3
import Derived.Test.YtefbgdnobnemkaaDoorD12
import Derived.Test.YtefbgdnobnemkaaDoorQEditBack
import Derived.Test.YtefbgdnobnemkaaDoorTie
import Derived.Test.YtefbgdnobnemkaaDoorCards
import Derived.SevenTiedAt
import Derived.Stop.Joined
namespace Go.Proofs.YtefbgdnobnemkaaDoor
open Go Go.RowKit Go.ChangeShapes Go.WideShapes Go.ChangeAt AM

namespace EditBackRow
set_option maxRecDepth 100000 in
theorem lifted (os : Os) (started : os.Started) (H : Type) (enc : TypeId × Value → H) :
    ReturnsInHanded {} Tryd.checked os 8 .any (fun w args => (Rows.editBackSpec.pre enc Tryd.prog Tryd.f8 Rows.editBackRow.domain false w args ∧ laidMetH Tryd.prog laid w) ∧ sizedMet enc Tryd.prog Tryd.f8 (OpenSpec.ofChange Rows.editBackSpec) false w args) (Rows.editBackSpec.post enc Tryd.prog Tryd.f8 false true false false) := by
  refine returnsInHanded_of_change_and (C := Tryd.checked) (X := fun w _ => laidMetH Tryd.prog laid w) (fun _ _ _ hh h => h.of_heap hh) own started (by kernel_rfl) Tryd.func8 (wit os H enc) ?_
  intro W base args ds gs before hval0 hW _ hwt _ _
  have hval : ∀ (j : Nat) t v, Tryd.f8.params[j]? = some t → args[j]? = some v → Value.okWide Tryd.prog W .any base t v := hval0
  have hW' := hW
  obtain ⟨p, q, hA0, hV, rfl, hfz, hnd⟩ := hW
  have hA : DataW.TrodAll enc Tryd.prog W 0 (fun _ => true) true Tryd.f8.params.toList args.toList ds p := hA0
  obtain ⟨rfl, rfl⟩ := trodVars_none hV
  have hlt : ∀ x ∈ p, x.block < W.heap.size := fun x hx => by simpa using hW'.lt x (by simp [hx])
  have hAk := hA
  have hwt' := fun (j : Nat) t d ht hd n hn => of_decide_eq_true (List.all_eq_true.1 hwt n (DataW.weights_mem_each (j := j) (t := t) (d := d) ht hd n hn))
  clear hwt
  rw [Tryd.params8] at hA hval hwt'
  obtain ⟨v0, vs0, d0, ds0, mp0, mq0, hargs, rfl, rfl, h0, r0⟩ := trodAll_cons hA
  obtain ⟨v1, vs1, d1, ds1, mp1, mq1, rfl, rfl, rfl, h1, r1⟩ := trodAll_cons r0
  obtain ⟨v2, vs2, d2, ds2, mp2, mq2, rfl, rfl, rfl, h2, r2⟩ := trodAll_cons r1
  obtain ⟨v3, vs3, d3, ds3, mp3, mq3, rfl, rfl, rfl, h3, r3⟩ := trodAll_cons r2
  obtain ⟨v4, vs4, d4, ds4, mp4, mq4, rfl, rfl, rfl, h4, r4⟩ := trodAll_cons r3
  obtain ⟨v5, vs5, d5, ds5, mp5, mq5, rfl, rfl, rfl, h5, r5⟩ := trodAll_cons r4
  obtain ⟨v6, vs6, d6, ds6, mp6, mq6, rfl, rfl, rfl, h6, r6⟩ := trodAll_cons r5
  obtain ⟨rfl, rfl, rfl⟩ := trodAll_nil r6
  obtain rfl : args = #[v0, v1, v2, v3, v4, v5, v6] := by cases args; simp_all
  obtain ⟨a0, hR0, hl0, hb0⟩ := open_strsR Tryd.underlying22 Tryd.underlying9 (by kernel_rfl) (of_decide_eq_true (by kernel_rfl)) (hval 0 22 v0 rfl rfl) h0 (hwt' 0 22 d0 rfl rfl)
  obtain ⟨a1, hv1, _, _, hw1⟩ := open_int Tryd.underlying5 (hval 1 5 v1 rfl rfl) h1
  have hR1 : R noRho (oldA W) W v1 (.int .u8 a1) := by rw [hv1]; exact .int _ a1
  have hi1 : inK .u8 a1 := wf_inK hw1
  obtain ⟨a2, hv2, _, _, hw2⟩ := open_int Tryd.underlying25 (hval 2 25 v2 rfl rfl) h2
  have hR2 : R noRho (oldA W) W v2 (.int .u16 a2) := by rw [hv2]; exact .int _ a2
  have hi2 : inK .u16 a2 := wf_inK hw2
  obtain ⟨a3, hv3, _, _, hw3⟩ := open_int Tryd.underlying25 (hval 3 25 v3 rfl rfl) h3
  have hR3 : R noRho (oldA W) W v3 (.int .u16 a3) := by rw [hv3]; exact .int _ a3
  have hi3 : inK .u16 a3 := wf_inK hw3
  obtain ⟨a4, hv4, _, _, hw4⟩ := open_int Tryd.underlying25 (hval 4 25 v4 rfl rfl) h4
  have hR4 : R noRho (oldA W) W v4 (.int .u16 a4) := by rw [hv4]; exact .int _ a4
  have hi4 : inK .u16 a4 := wf_inK hw4
  obtain ⟨a5, hv5, _, _, hw5⟩ := open_int Tryd.underlying25 (hval 5 25 v5 rfl rfl) h5
  have hR5 : R noRho (oldA W) W v5 (.int .u16 a5) := by rw [hv5]; exact .int _ a5
  have hi5 : inK .u16 a5 := wf_inK hw5
  obtain ⟨a6, hv6, _, _, hw6⟩ := open_int Tryd.underlying5 (hval 6 5 v6 rfl rfl) h6
  have hR6 : R noRho (oldA W) W v6 (.int .u8 a6) := by rw [hv6]; exact .int _ a6
  have hi6 : inK .u8 a6 := wf_inK hw6
  refine ((q8 a0 a1 a2 a3 a4 a5 a6 hl0 hb0 hi1 hi2 hi3 hi4 hi5 hi6).2.2 (oldA W) W #[v0, v1, v2, v3, v4, v5, v6] (fun _ h => h) rfl (fun i x hx => ?_)).mono fun e W' ⟨v, he, hv, hb⟩ => ?_
  · match i, hx with
    | 0, hx => cases hx; exact hR0
    | 1, hx => cases hx; exact hR1
    | 2, hx => cases hx; exact hR2
    | 3, hx => cases hx; exact hR3
    | 4, hx => cases hx; exact hR4
    | 5, hx => cases hx; exact hR5
    | 6, hx => cases hx; exact hR6
    | i + 7, hx => simp at hx
  subst he
  rw [hv.bool_inv]
  refine ⟨_, rfl, _, _, _, [], _, [], hW', ?_, stays laidOut hb _ (by kernel_rfl) hAk hlt, rfl, hb.frame _, fun h => by cases h⟩
  exact trodAll_cons_mk (shut_bool Tryd.underlying4 _) trodAll_mk0

theorem over : Rows.EditBackSaid :=
  OpenClaim.holds_of_wide 8 Tryd.f8 rfl rfl rfl rfl rfl rfl rfl ⟨rfl, rfl, rfl, rfl, rfl⟩ rfl rfl rfl rfl rfl a1 Tryd.func8 a2 a3 a4
    (fun os started H enc _ => lifted os started H enc)
end EditBackRow

/-- The tied card: the row, what it lists tied to the program's text. -/
theorem editBack_proved : Rows.EditBackCardSaid :=
  Claim7.holds_tied_plain_at .later [] [.data, .pinned] true (true, "e22b2544ff578f8cbf994da1adc23e9913e9d2c338c8f44a48dd1244a448294e") false EditBackRow.over (fun _ h => by cases h) (by kernel_rfl) (fun _ h => by cases h) editBack_row_tie rfl ⟨rfl, rfl⟩ (by kernel_rfl) rfl
    (fun f fn hf hfn => by
      obtain rfl : f = 8 := Option.some.inj (EditBackRow.a1.symm.trans hf) |>.symm
      obtain rfl : fn = Tryd.f8 := (Option.some.inj (Tryd.func8.symm.trans hfn)).symm
      exact ⟨by kernel_rfl, fun j t ht => by
        rw [Tryd.params8] at ht
        have hm : t ∈ [22, 5, 25, 25, 25, 25, 5] := by simpa using Array.mem_of_getElem? ht
        have hall : ([22, 5, 25, 25, 25, 25, 5].all fun u => !Tryd.prog.wantsStandIn u) = true := by kernel_rfl
        exact (show Tryd.prog.wantsStandIn t = false by simpa using List.all_eq_true.1 hall t hm)⟩)
    (by kernel_rfl)
#print axioms editBack_proved
end Go.Proofs.YtefbgdnobnemkaaDoor
