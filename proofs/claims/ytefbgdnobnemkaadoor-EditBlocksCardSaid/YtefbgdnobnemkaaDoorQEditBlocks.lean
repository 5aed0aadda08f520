/-
  Closed facts of a row: EditBlocks.
-/
import Derived.Test.YtefbgdnobnemkaaDoorQP
namespace Go.Proofs.YtefbgdnobnemkaaDoor
open Go Go.RowKit Go.ChangeShapes Go.WideShapes Go.ChangeAt AM

namespace EditBlocksRow
theorem a1 : Tryd.prog.funcNamed "foolscap/foolscaplaw20.EditBlocks" = some 6 := by kernel_rfl
theorem b0 : (Rows.editBlocksRow.wf (OpenSpec.ofChange Rows.editBlocksSpec)) = true := by kernel_rfl
theorem b3 : (Tryd.f6.params.all (Tryd.prog.readableRec ·)) = true := by kernel_rfl
theorem b4 : (namedTie Tryd.prog Rows.editBlocksRow.named Rows.editBlocksSpec.vars) = true := by kernel_rfl
theorem b5 : (Rows.editBlocksRow.stops == []) = true := by kernel_rfl
theorem b7 : (Rows.editBlocksRow.knobs == []) = true := by kernel_rfl
theorem b9 : (Rows.editBlocksRow.inPlace == Tryd.prog.inPlace 6) = true := by kernel_rfl
theorem b10 : (Rows.editBlocksRow.unfollowed == Tryd.prog.unfollowed 6) = true := by kernel_rfl
theorem b11 : (Rows.editBlocksRow.recurses == Tryd.prog.recurses 6) = true := by kernel_rfl
theorem b12 : (Rows.editBlocksRow.named == Tryd.prog.varsNamed 6) = true := by kernel_rfl
theorem b13 : (Rows.editBlocksRow.maps == (Tryd.f6.params.toList ++ Rows.editBlocksSpec.plain.varTypes Tryd.prog).any (Tryd.prog.mapsRec ·)) = true := by kernel_rfl
theorem b14 : (Rows.editBlocksRow.ifaces == (Tryd.f6.params.toList ++ Rows.editBlocksSpec.plain.varTypes Tryd.prog).any (Tryd.prog.ifacesRec ·)) = true := by kernel_rfl
theorem b15 : (Rows.editBlocksRow.mapsOut == Tryd.prog.mapsAmong Tryd.f6.resultTypes.toList) = true := by kernel_rfl
theorem b16 : (Rows.editBlocksRow.loops == (Tryd.f6.params.toList ++ Rows.editBlocksSpec.plain.varTypes Tryd.prog).any (Tryd.prog.loopsFrom ·)) = true := by kernel_rfl
theorem b17 : (Rows.editBlocksRow.wideKeys == (Tryd.f6.params.toList ++ Rows.editBlocksSpec.plain.varTypes Tryd.prog ++ Tryd.f6.resultTypes.toList).any (Tryd.prog.wideKeysFrom ·)) = true := by kernel_rfl
theorem b18 : (Rows.editBlocksSpec.vars.all (Tryd.prog.varReadable ·)) = true := by kernel_rfl
theorem b19 : (Tryd.f6.resultTypes.all (fun t => Tryd.prog.readableRec t && decide (t < Tryd.prog.types.size))) = true := by kernel_rfl
theorem b20 : (Rows.editBlocksRow.ifacesOut == Tryd.f6.resultTypes.toList.any (Tryd.prog.ifacesRec ·)) = true := by kernel_rfl
theorem b21 : (Rows.editBlocksRow.loopsOut == Tryd.f6.resultTypes.toList.any (Tryd.prog.loopsFrom ·)) = true := by kernel_rfl
theorem b22 : (Rows.editBlocksRow.plainKeys == Tryd.prog.plainKeys) = true := by rw [qPlain]; rfl
theorem b23 : (Rows.editBlocksRow.shortTexts.isNone) = true := by kernel_rfl
theorem b26 : (Rows.editBlocksRow.lifted == Tryd.prog.liftsFinal) = true := by rw [qLifts]; rfl
theorem b27 : (Tryd.prog.make == some Rows.editBlocksRow.make) = true := by rw [qMake]; rfl
theorem b28 : (Rows.editBlocksRow.kinds == (if Rows.editBlocksRow.domain.isEmpty then [] else Tryd.f6.params.toList.map fun t => match Tryd.prog.underlying t with | some (.int k) => some k | _ => none)) = true := by kernel_rfl
theorem b29 : (Rows.editBlocksRow.pinned == Rows.editBlocksRow.pinnedBy) = true := by kernel_rfl
theorem b30 : (Rows.editBlocksRow.veiled == (Tryd.f6.params.toList ++ Rows.editBlocksSpec.plain.varTypes Tryd.prog ++ Tryd.f6.resultTypes.toList).any (Tryd.prog.veiledRec ·)) = true := by kernel_rfl
theorem b31 : (Rows.editBlocksRow.veiledFits Tryd.prog Tryd.f6.params.toList (Tryd.f6.params.toList ++ Rows.editBlocksSpec.plain.varTypes Tryd.prog ++ Tryd.f6.resultTypes.toList)) = true := by kernel_rfl
set_option maxRecDepth 4000 in
theorem a2 : joinedFacts Tryd.prog 6 Tryd.f6 Rows.editBlocksSpec Rows.editBlocksRow = true := by
  unfold joinedFacts
  refine bAnd ?_ ?_; rotate_left
  · exact b31
  refine bAnd ?_ ?_; rotate_left
  · exact b30
  refine bAnd ?_ ?_; rotate_left
  · exact b29
  refine bAnd ?_ ?_; rotate_left
  · exact b28
  refine bAnd ?_ ?_; rotate_left
  · exact b27
  refine bAnd ?_ ?_; rotate_left
  · exact b26
  refine bAnd ?_ ?_; rotate_left
  · exact qEnter
  refine bAnd ?_ ?_; rotate_left
  · exact qHeard
  refine bAnd ?_ ?_; rotate_left
  · exact b23
  refine bAnd ?_ ?_; rotate_left
  · exact b22
  refine bAnd ?_ ?_; rotate_left
  · exact b21
  refine bAnd ?_ ?_; rotate_left
  · exact b20
  refine bAnd ?_ ?_; rotate_left
  · exact b19
  refine bAnd ?_ ?_; rotate_left
  · exact b18
  refine bAnd ?_ ?_; rotate_left
  · exact b17
  refine bAnd ?_ ?_; rotate_left
  · exact b16
  refine bAnd ?_ ?_; rotate_left
  · exact b15
  refine bAnd ?_ ?_; rotate_left
  · exact b14
  refine bAnd ?_ ?_; rotate_left
  · exact b13
  refine bAnd ?_ ?_; rotate_left
  · exact b12
  refine bAnd ?_ ?_; rotate_left
  · exact b11
  refine bAnd ?_ ?_; rotate_left
  · exact b10
  refine bAnd ?_ ?_; rotate_left
  · exact b9
  refine bAnd ?_ ?_; rotate_left
  · exact qKnobs
  refine bAnd ?_ ?_; rotate_left
  · exact b7
  refine bAnd ?_ ?_; rotate_left
  · exact qStops
  refine bAnd ?_ ?_; rotate_left
  · exact b5
  refine bAnd ?_ ?_; rotate_left
  · exact b4
  refine bAnd ?_ ?_; rotate_left
  · exact b3
  refine bAnd ?_ ?_; rotate_left
  · exact qMaps
  refine bAnd ?_ ?_; rotate_left
  · exact qLaid
  exact b0
theorem a3 : Tryd.f6.isInstance Tryd.prog Rows.editBlocksRow.origin Rows.editBlocksRow.targs := of_decide_eq_true (by kernel_rfl)
theorem a4 : Tryd.f6.isWrapper Tryd.prog Rows.editBlocksRow.wrapper Rows.editBlocksRow.mainSum := by unfold Func.isWrapper; first | (rw [if_pos (by decide +kernel)]; kernel_rfl) | (rw [if_neg (by decide +kernel)]; exact ⟨rfl, rfl⟩)
/-- One input that fits, in a world that lays what is listed. -/
theorem wit (os : Os) (H : Type) (enc : TypeId × Value → H) : ∃ (w : World) (tape : Tape) (i : Input), w.os = os ∧ (w.forCall tape i).Shaped Tryd.prog ∧ i.vars = [] ∧ Input.okWide Tryd.prog (w.forCall tape i) .any w.heap.size 6 i ∧
      ((Rows.editBlocksSpec.pre enc Tryd.prog Tryd.f6 Rows.editBlocksRow.domain false (w.forCall tape i).memory i.args ∧ laidMetH Tryd.prog laid (w.forCall tape i).memory) ∧ sizedMet enc Tryd.prog Tryd.f6 (OpenSpec.ofChange Rows.editBlocksSpec) false (w.forCall tape i).memory i.args) ∧ Assume.holds {} Tryd.prog (lone (Frame.enter Tryd.prog 6 i.args .normal) [] (w.forCall tape i)) :=
  ChangeSpec.witness_shaped (enc := enc) (C := Tryd.checked) (os := os) (X := fun w _ => laidMetH Tryd.prog laid w) false (World.laidAll Tryd.prog os laid) #[.slice none 0 0, .int .u16 0, .int .u16 0, .int .u16 0, .int .u16 0] 8 (World.laidAll_os _ _ _)
    (World.shaped_of_ZipB (by kernel_rfl) (by kernel_rfl)) (by kernel_rfl) (by kernel_rfl) (by kernel_rfl)
    (by rw [MakeChecks.laidMetH_plain _ _ _ (by kernel_rfl)]; exact laidMet_laidAll _ (by kernel_rfl) (by kernel_rfl))
end EditBlocksRow
end Go.Proofs.YtefbgdnobnemkaaDoor
