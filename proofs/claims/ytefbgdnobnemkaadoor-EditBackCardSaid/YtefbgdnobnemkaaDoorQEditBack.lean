/-
  Closed facts of a row: EditBack.
-/
import Derived.Test.YtefbgdnobnemkaaDoorQP
namespace Go.Proofs.YtefbgdnobnemkaaDoor
open Go Go.RowKit Go.ChangeShapes Go.WideShapes Go.ChangeAt AM

namespace EditBackRow
theorem a1 : Tryd.prog.funcNamed "foolscap/foolscaplaw20.EditBack" = some 8 := by kernel_rfl
theorem b0 : (Rows.editBackRow.wf (OpenSpec.ofChange Rows.editBackSpec)) = true := by kernel_rfl
theorem b3 : (Tryd.f8.params.all (Tryd.prog.readableRec ·)) = true := by kernel_rfl
theorem b4 : (namedTie Tryd.prog Rows.editBackRow.named Rows.editBackSpec.vars) = true := by kernel_rfl
theorem b5 : (Rows.editBackRow.stops == []) = true := by kernel_rfl
theorem b7 : (Rows.editBackRow.knobs == []) = true := by kernel_rfl
theorem b9 : (Rows.editBackRow.inPlace == Tryd.prog.inPlace 8) = true := by kernel_rfl
theorem b10 : (Rows.editBackRow.unfollowed == Tryd.prog.unfollowed 8) = true := by kernel_rfl
theorem b11 : (Rows.editBackRow.recurses == Tryd.prog.recurses 8) = true := by kernel_rfl
theorem b12 : (Rows.editBackRow.named == Tryd.prog.varsNamed 8) = true := by kernel_rfl
theorem b13 : (Rows.editBackRow.maps == (Tryd.f8.params.toList ++ Rows.editBackSpec.plain.varTypes Tryd.prog).any (Tryd.prog.mapsRec ·)) = true := by kernel_rfl
theorem b14 : (Rows.editBackRow.ifaces == (Tryd.f8.params.toList ++ Rows.editBackSpec.plain.varTypes Tryd.prog).any (Tryd.prog.ifacesRec ·)) = true := by kernel_rfl
theorem b15 : (Rows.editBackRow.mapsOut == Tryd.prog.mapsAmong Tryd.f8.resultTypes.toList) = true := by kernel_rfl
theorem b16 : (Rows.editBackRow.loops == (Tryd.f8.params.toList ++ Rows.editBackSpec.plain.varTypes Tryd.prog).any (Tryd.prog.loopsFrom ·)) = true := by kernel_rfl
theorem b17 : (Rows.editBackRow.wideKeys == (Tryd.f8.params.toList ++ Rows.editBackSpec.plain.varTypes Tryd.prog ++ Tryd.f8.resultTypes.toList).any (Tryd.prog.wideKeysFrom ·)) = true := by kernel_rfl
theorem b18 : (Rows.editBackSpec.vars.all (Tryd.prog.varReadable ·)) = true := by kernel_rfl
theorem b19 : (Tryd.f8.resultTypes.all (fun t => Tryd.prog.readableRec t && decide (t < Tryd.prog.types.size))) = true := by kernel_rfl
theorem b20 : (Rows.editBackRow.ifacesOut == Tryd.f8.resultTypes.toList.any (Tryd.prog.ifacesRec ·)) = true := by kernel_rfl
theorem b21 : (Rows.editBackRow.loopsOut == Tryd.f8.resultTypes.toList.any (Tryd.prog.loopsFrom ·)) = true := by kernel_rfl
theorem b22 : (Rows.editBackRow.plainKeys == Tryd.prog.plainKeys) = true := by rw [qPlain]; rfl
theorem b23 : (Rows.editBackRow.shortTexts.isNone) = true := by kernel_rfl
theorem b26 : (Rows.editBackRow.lifted == Tryd.prog.liftsFinal) = true := by rw [qLifts]; rfl
theorem b27 : (Tryd.prog.make == some Rows.editBackRow.make) = true := by rw [qMake]; rfl
theorem b28 : (Rows.editBackRow.kinds == (if Rows.editBackRow.domain.isEmpty then [] else Tryd.f8.params.toList.map fun t => match Tryd.prog.underlying t with | some (.int k) => some k | _ => none)) = true := by kernel_rfl
theorem b29 : (Rows.editBackRow.pinned == Rows.editBackRow.pinnedBy) = true := by kernel_rfl
theorem b30 : (Rows.editBackRow.veiled == (Tryd.f8.params.toList ++ Rows.editBackSpec.plain.varTypes Tryd.prog ++ Tryd.f8.resultTypes.toList).any (Tryd.prog.veiledRec ·)) = true := by kernel_rfl
theorem b31 : (Rows.editBackRow.veiledFits Tryd.prog Tryd.f8.params.toList (Tryd.f8.params.toList ++ Rows.editBackSpec.plain.varTypes Tryd.prog ++ Tryd.f8.resultTypes.toList)) = true := by kernel_rfl
set_option maxRecDepth 4000 in
theorem a2 : joinedFacts Tryd.prog 8 Tryd.f8 Rows.editBackSpec Rows.editBackRow = true := by
  unfold joinedFacts
  refine bAnd ?_ ?_; rotate_left
  · exact b31
  refine bAnd ?_ ?_; rotate_left
  · exact b30
  refine bAnd ?_ ?_; rotate_left
  · exact b29
  refine bAnd ?_ ?_; rotate_left
  · exact b28
  refine bAnd ?_ ?_; rotate_left
  · exact b27
  refine bAnd ?_ ?_; rotate_left
  · exact b26
  refine bAnd ?_ ?_; rotate_left
  · exact qEnter
  refine bAnd ?_ ?_; rotate_left
  · exact qHeard
  refine bAnd ?_ ?_; rotate_left
  · exact b23
  refine bAnd ?_ ?_; rotate_left
  · exact b22
  refine bAnd ?_ ?_; rotate_left
  · exact b21
  refine bAnd ?_ ?_; rotate_left
  · exact b20
  refine bAnd ?_ ?_; rotate_left
  · exact b19
  refine bAnd ?_ ?_; rotate_left
  · exact b18
  refine bAnd ?_ ?_; rotate_left
  · exact b17
  refine bAnd ?_ ?_; rotate_left
  · exact b16
  refine bAnd ?_ ?_; rotate_left
  · exact b15
  refine bAnd ?_ ?_; rotate_left
  · exact b14
  refine bAnd ?_ ?_; rotate_left
  · exact b13
  refine bAnd ?_ ?_; rotate_left
  · exact b12
  refine bAnd ?_ ?_; rotate_left
  · exact b11
  refine bAnd ?_ ?_; rotate_left
  · exact b10
  refine bAnd ?_ ?_; rotate_left
  · exact b9
  refine bAnd ?_ ?_; rotate_left
  · exact qKnobs
  refine bAnd ?_ ?_; rotate_left
  · exact b7
  refine bAnd ?_ ?_; rotate_left
  · exact qStops
  refine bAnd ?_ ?_; rotate_left
  · exact b5
  refine bAnd ?_ ?_; rotate_left
  · exact b4
  refine bAnd ?_ ?_; rotate_left
  · exact b3
  refine bAnd ?_ ?_; rotate_left
  · exact qMaps
  refine bAnd ?_ ?_; rotate_left
  · exact qLaid
  exact b0
theorem a3 : Tryd.f8.isInstance Tryd.prog Rows.editBackRow.origin Rows.editBackRow.targs := of_decide_eq_true (by kernel_rfl)
theorem a4 : Tryd.f8.isWrapper Tryd.prog Rows.editBackRow.wrapper Rows.editBackRow.mainSum := by unfold Func.isWrapper; first | (rw [if_pos (by decide +kernel)]; kernel_rfl) | (rw [if_neg (by decide +kernel)]; exact ⟨rfl, rfl⟩)
/-- One input that fits, in a world that lays what is listed. -/
theorem wit (os : Os) (H : Type) (enc : TypeId × Value → H) : ∃ (w : World) (tape : Tape) (i : Input), w.os = os ∧ (w.forCall tape i).Shaped Tryd.prog ∧ i.vars = [] ∧ Input.okWide Tryd.prog (w.forCall tape i) .any w.heap.size 8 i ∧
      ((Rows.editBackSpec.pre enc Tryd.prog Tryd.f8 Rows.editBackRow.domain false (w.forCall tape i).memory i.args ∧ laidMetH Tryd.prog laid (w.forCall tape i).memory) ∧ sizedMet enc Tryd.prog Tryd.f8 (OpenSpec.ofChange Rows.editBackSpec) false (w.forCall tape i).memory i.args) ∧ Assume.holds {} Tryd.prog (lone (Frame.enter Tryd.prog 8 i.args .normal) [] (w.forCall tape i)) :=
  ChangeSpec.witness_shaped (enc := enc) (C := Tryd.checked) (os := os) (X := fun w _ => laidMetH Tryd.prog laid w) false (World.laidAll Tryd.prog os laid) #[.slice none 0 0, .int .u8 0, .int .u16 0, .int .u16 0, .int .u16 0, .int .u16 0, .int .u8 0] 8 (World.laidAll_os _ _ _)
    (World.shaped_of_ZipB (by kernel_rfl) (by kernel_rfl)) (by kernel_rfl) (by kernel_rfl) (by kernel_rfl)
    (by rw [MakeChecks.laidMetH_plain _ _ _ (by kernel_rfl)]; exact laidMet_laidAll _ (by kernel_rfl) (by kernel_rfl))
end EditBackRow
end Go.Proofs.YtefbgdnobnemkaaDoor
