/-
  Closed facts of a row: EditParts.
-/
import Derived.Test.YtefbgdnobnemkaaDoorQP
namespace Go.Proofs.YtefbgdnobnemkaaDoor
open Go Go.RowKit Go.ChangeShapes Go.WideShapes Go.ChangeAt AM

namespace EditPartsRow
theorem a1 : Tryd.prog.funcNamed "foolscap/foolscaplaw20.EditParts" = some 5 := by kernel_rfl
theorem b0 : (Rows.editPartsRow.wf (OpenSpec.ofChange Rows.editPartsSpec)) = true := by kernel_rfl
theorem b3 : (Tryd.f5.params.all (Tryd.prog.readableRec ·)) = true := by kernel_rfl
theorem b4 : (namedTie Tryd.prog Rows.editPartsRow.named Rows.editPartsSpec.vars) = true := by kernel_rfl
theorem b5 : (Rows.editPartsRow.stops == []) = true := by kernel_rfl
theorem b7 : (Rows.editPartsRow.knobs == []) = true := by kernel_rfl
theorem b9 : (Rows.editPartsRow.inPlace == Tryd.prog.inPlace 5) = true := by kernel_rfl
theorem b10 : (Rows.editPartsRow.unfollowed == Tryd.prog.unfollowed 5) = true := by kernel_rfl
theorem b11 : (Rows.editPartsRow.recurses == Tryd.prog.recurses 5) = true := by kernel_rfl
theorem b12 : (Rows.editPartsRow.named == Tryd.prog.varsNamed 5) = true := by kernel_rfl
theorem b13 : (Rows.editPartsRow.maps == (Tryd.f5.params.toList ++ Rows.editPartsSpec.plain.varTypes Tryd.prog).any (Tryd.prog.mapsRec ·)) = true := by kernel_rfl
theorem b14 : (Rows.editPartsRow.ifaces == (Tryd.f5.params.toList ++ Rows.editPartsSpec.plain.varTypes Tryd.prog).any (Tryd.prog.ifacesRec ·)) = true := by kernel_rfl
theorem b15 : (Rows.editPartsRow.mapsOut == Tryd.prog.mapsAmong Tryd.f5.resultTypes.toList) = true := by kernel_rfl
theorem b16 : (Rows.editPartsRow.loops == (Tryd.f5.params.toList ++ Rows.editPartsSpec.plain.varTypes Tryd.prog).any (Tryd.prog.loopsFrom ·)) = true := by kernel_rfl
theorem b17 : (Rows.editPartsRow.wideKeys == (Tryd.f5.params.toList ++ Rows.editPartsSpec.plain.varTypes Tryd.prog ++ Tryd.f5.resultTypes.toList).any (Tryd.prog.wideKeysFrom ·)) = true := by kernel_rfl
theorem b18 : (Rows.editPartsSpec.vars.all (Tryd.prog.varReadable ·)) = true := by kernel_rfl
theorem b19 : (Tryd.f5.resultTypes.all (fun t => Tryd.prog.readableRec t && decide (t < Tryd.prog.types.size))) = true := by kernel_rfl
theorem b20 : (Rows.editPartsRow.ifacesOut == Tryd.f5.resultTypes.toList.any (Tryd.prog.ifacesRec ·)) = true := by kernel_rfl
theorem b21 : (Rows.editPartsRow.loopsOut == Tryd.f5.resultTypes.toList.any (Tryd.prog.loopsFrom ·)) = true := by kernel_rfl
theorem b22 : (Rows.editPartsRow.plainKeys == Tryd.prog.plainKeys) = true := by rw [qPlain]; rfl
theorem b23 : (Rows.editPartsRow.shortTexts.isNone) = true := by kernel_rfl
theorem b26 : (Rows.editPartsRow.lifted == Tryd.prog.liftsFinal) = true := by rw [qLifts]; rfl
theorem b27 : (Tryd.prog.make == some Rows.editPartsRow.make) = true := by rw [qMake]; rfl
theorem b28 : (Rows.editPartsRow.kinds == (if Rows.editPartsRow.domain.isEmpty then [] else Tryd.f5.params.toList.map fun t => match Tryd.prog.underlying t with | some (.int k) => some k | _ => none)) = true := by kernel_rfl
theorem b29 : (Rows.editPartsRow.pinned == Rows.editPartsRow.pinnedBy) = true := by kernel_rfl
theorem b30 : (Rows.editPartsRow.veiled == (Tryd.f5.params.toList ++ Rows.editPartsSpec.plain.varTypes Tryd.prog ++ Tryd.f5.resultTypes.toList).any (Tryd.prog.veiledRec ·)) = true := by kernel_rfl
theorem b31 : (Rows.editPartsRow.veiledFits Tryd.prog Tryd.f5.params.toList (Tryd.f5.params.toList ++ Rows.editPartsSpec.plain.varTypes Tryd.prog ++ Tryd.f5.resultTypes.toList)) = true := by kernel_rfl
set_option maxRecDepth 4000 in
theorem a2 : joinedFacts Tryd.prog 5 Tryd.f5 Rows.editPartsSpec Rows.editPartsRow = true := by
  unfold joinedFacts
  refine bAnd ?_ ?_; rotate_left
  · exact b31
  refine bAnd ?_ ?_; rotate_left
  · exact b30
  refine bAnd ?_ ?_; rotate_left
  · exact b29
  refine bAnd ?_ ?_; rotate_left
  · exact b28
  refine bAnd ?_ ?_; rotate_left
  · exact b27
  refine bAnd ?_ ?_; rotate_left
  · exact b26
  refine bAnd ?_ ?_; rotate_left
  · exact qEnter
  refine bAnd ?_ ?_; rotate_left
  · exact qHeard
  refine bAnd ?_ ?_; rotate_left
  · exact b23
  refine bAnd ?_ ?_; rotate_left
  · exact b22
  refine bAnd ?_ ?_; rotate_left
  · exact b21
  refine bAnd ?_ ?_; rotate_left
  · exact b20
  refine bAnd ?_ ?_; rotate_left
  · exact b19
  refine bAnd ?_ ?_; rotate_left
  · exact b18
  refine bAnd ?_ ?_; rotate_left
  · exact b17
  refine bAnd ?_ ?_; rotate_left
  · exact b16
  refine bAnd ?_ ?_; rotate_left
  · exact b15
  refine bAnd ?_ ?_; rotate_left
  · exact b14
  refine bAnd ?_ ?_; rotate_left
  · exact b13
  refine bAnd ?_ ?_; rotate_left
  · exact b12
  refine bAnd ?_ ?_; rotate_left
  · exact b11
  refine bAnd ?_ ?_; rotate_left
  · exact b10
  refine bAnd ?_ ?_; rotate_left
  · exact b9
  refine bAnd ?_ ?_; rotate_left
  · exact qKnobs
  refine bAnd ?_ ?_; rotate_left
  · exact b7
  refine bAnd ?_ ?_; rotate_left
  · exact qStops
  refine bAnd ?_ ?_; rotate_left
  · exact b5
  refine bAnd ?_ ?_; rotate_left
  · exact b4
  refine bAnd ?_ ?_; rotate_left
  · exact b3
  refine bAnd ?_ ?_; rotate_left
  · exact qMaps
  refine bAnd ?_ ?_; rotate_left
  · exact qLaid
  exact b0
theorem a3 : Tryd.f5.isInstance Tryd.prog Rows.editPartsRow.origin Rows.editPartsRow.targs := of_decide_eq_true (by kernel_rfl)
theorem a4 : Tryd.f5.isWrapper Tryd.prog Rows.editPartsRow.wrapper Rows.editPartsRow.mainSum := by unfold Func.isWrapper; first | (rw [if_pos (by decide +kernel)]; kernel_rfl) | (rw [if_neg (by decide +kernel)]; exact ⟨rfl, rfl⟩)
/-- One input that fits, in a world that lays what is listed. -/
theorem wit (os : Os) (H : Type) (enc : TypeId × Value → H) : ∃ (w : World) (tape : Tape) (i : Input), w.os = os ∧ (w.forCall tape i).Shaped Tryd.prog ∧ i.vars = [] ∧ Input.okWide Tryd.prog (w.forCall tape i) .any w.heap.size 5 i ∧
      ((Rows.editPartsSpec.pre enc Tryd.prog Tryd.f5 Rows.editPartsRow.domain false (w.forCall tape i).memory i.args ∧ laidMetH Tryd.prog laid (w.forCall tape i).memory) ∧ sizedMet enc Tryd.prog Tryd.f5 (OpenSpec.ofChange Rows.editPartsSpec) false (w.forCall tape i).memory i.args) ∧ Assume.holds {} Tryd.prog (lone (Frame.enter Tryd.prog 5 i.args .normal) [] (w.forCall tape i)) :=
  ChangeSpec.witness_shaped (enc := enc) (C := Tryd.checked) (os := os) (X := fun w _ => laidMetH Tryd.prog laid w) false (World.laidAll Tryd.prog os laid) #[.slice none 0 0, .int .u16 0, .int .u16 0] 8 (World.laidAll_os _ _ _)
    (World.shaped_of_ZipB (by kernel_rfl) (by kernel_rfl)) (by kernel_rfl) (by kernel_rfl) (by kernel_rfl)
    (by rw [MakeChecks.laidMetH_plain _ _ _ (by kernel_rfl)]; exact laidMet_laidAll _ (by kernel_rfl) (by kernel_rfl))
end EditPartsRow
end Go.Proofs.YtefbgdnobnemkaaDoor
