/-
  Closed facts of a row: EditJoins.
-/
import Derived.Test.YtefbgdnobnemkaaDoorQP
namespace Go.Proofs.YtefbgdnobnemkaaDoor
open Go Go.RowKit Go.ChangeShapes Go.WideShapes Go.ChangeAt AM

namespace EditJoinsRow
theorem a1 : Tryd.prog.funcNamed "foolscap/foolscaplaw20.EditJoins" = some 4 := by kernel_rfl
theorem b0 : (Rows.editJoinsRow.wf (OpenSpec.ofChange Rows.editJoinsSpec)) = true := by kernel_rfl
theorem b3 : (Tryd.f4.params.all (Tryd.prog.readableRec ·)) = true := by kernel_rfl
theorem b4 : (namedTie Tryd.prog Rows.editJoinsRow.named Rows.editJoinsSpec.vars) = true := by kernel_rfl
theorem b5 : (Rows.editJoinsRow.stops == []) = true := by kernel_rfl
theorem b7 : (Rows.editJoinsRow.knobs == []) = true := by kernel_rfl
theorem b9 : (Rows.editJoinsRow.inPlace == Tryd.prog.inPlace 4) = true := by kernel_rfl
theorem b10 : (Rows.editJoinsRow.unfollowed == Tryd.prog.unfollowed 4) = true := by kernel_rfl
theorem b11 : (Rows.editJoinsRow.recurses == Tryd.prog.recurses 4) = true := by kernel_rfl
theorem b12 : (Rows.editJoinsRow.named == Tryd.prog.varsNamed 4) = true := by kernel_rfl
theorem b13 : (Rows.editJoinsRow.maps == (Tryd.f4.params.toList ++ Rows.editJoinsSpec.plain.varTypes Tryd.prog).any (Tryd.prog.mapsRec ·)) = true := by kernel_rfl
theorem b14 : (Rows.editJoinsRow.ifaces == (Tryd.f4.params.toList ++ Rows.editJoinsSpec.plain.varTypes Tryd.prog).any (Tryd.prog.ifacesRec ·)) = true := by kernel_rfl
theorem b15 : (Rows.editJoinsRow.mapsOut == Tryd.prog.mapsAmong Tryd.f4.resultTypes.toList) = true := by kernel_rfl
theorem b16 : (Rows.editJoinsRow.loops == (Tryd.f4.params.toList ++ Rows.editJoinsSpec.plain.varTypes Tryd.prog).any (Tryd.prog.loopsFrom ·)) = true := by kernel_rfl
theorem b17 : (Rows.editJoinsRow.wideKeys == (Tryd.f4.params.toList ++ Rows.editJoinsSpec.plain.varTypes Tryd.prog ++ Tryd.f4.resultTypes.toList).any (Tryd.prog.wideKeysFrom ·)) = true := by kernel_rfl
theorem b18 : (Rows.editJoinsSpec.vars.all (Tryd.prog.varReadable ·)) = true := by kernel_rfl
theorem b19 : (Tryd.f4.resultTypes.all (fun t => Tryd.prog.readableRec t && decide (t < Tryd.prog.types.size))) = true := by kernel_rfl
theorem b20 : (Rows.editJoinsRow.ifacesOut == Tryd.f4.resultTypes.toList.any (Tryd.prog.ifacesRec ·)) = true := by kernel_rfl
theorem b21 : (Rows.editJoinsRow.loopsOut == Tryd.f4.resultTypes.toList.any (Tryd.prog.loopsFrom ·)) = true := by kernel_rfl
theorem b22 : (Rows.editJoinsRow.plainKeys == Tryd.prog.plainKeys) = true := by rw [qPlain]; rfl
theorem b23 : (Rows.editJoinsRow.shortTexts.isNone) = true := by kernel_rfl
theorem b26 : (Rows.editJoinsRow.lifted == Tryd.prog.liftsFinal) = true := by rw [qLifts]; rfl
theorem b27 : (Tryd.prog.make == some Rows.editJoinsRow.make) = true := by rw [qMake]; rfl
theorem b28 : (Rows.editJoinsRow.kinds == (if Rows.editJoinsRow.domain.isEmpty then [] else Tryd.f4.params.toList.map fun t => match Tryd.prog.underlying t with | some (.int k) => some k | _ => none)) = true := by kernel_rfl
theorem b29 : (Rows.editJoinsRow.pinned == Rows.editJoinsRow.pinnedBy) = true := by kernel_rfl
theorem b30 : (Rows.editJoinsRow.veiled == (Tryd.f4.params.toList ++ Rows.editJoinsSpec.plain.varTypes Tryd.prog ++ Tryd.f4.resultTypes.toList).any (Tryd.prog.veiledRec ·)) = true := by kernel_rfl
theorem b31 : (Rows.editJoinsRow.veiledFits Tryd.prog Tryd.f4.params.toList (Tryd.f4.params.toList ++ Rows.editJoinsSpec.plain.varTypes Tryd.prog ++ Tryd.f4.resultTypes.toList)) = true := by kernel_rfl
set_option maxRecDepth 4000 in
theorem a2 : joinedFacts Tryd.prog 4 Tryd.f4 Rows.editJoinsSpec Rows.editJoinsRow = true := by
  unfold joinedFacts
  refine bAnd ?_ ?_; rotate_left
  · exact b31
  refine bAnd ?_ ?_; rotate_left
  · exact b30
  refine bAnd ?_ ?_; rotate_left
  · exact b29
  refine bAnd ?_ ?_; rotate_left
  · exact b28
  refine bAnd ?_ ?_; rotate_left
  · exact b27
  refine bAnd ?_ ?_; rotate_left
  · exact b26
  refine bAnd ?_ ?_; rotate_left
  · exact qEnter
  refine bAnd ?_ ?_; rotate_left
  · exact qHeard
  refine bAnd ?_ ?_; rotate_left
  · exact b23
  refine bAnd ?_ ?_; rotate_left
  · exact b22
  refine bAnd ?_ ?_; rotate_left
  · exact b21
  refine bAnd ?_ ?_; rotate_left
  · exact b20
  refine bAnd ?_ ?_; rotate_left
  · exact b19
  refine bAnd ?_ ?_; rotate_left
  · exact b18
  refine bAnd ?_ ?_; rotate_left
  · exact b17
  refine bAnd ?_ ?_; rotate_left
  · exact b16
  refine bAnd ?_ ?_; rotate_left
  · exact b15
  refine bAnd ?_ ?_; rotate_left
  · exact b14
  refine bAnd ?_ ?_; rotate_left
  · exact b13
  refine bAnd ?_ ?_; rotate_left
  · exact b12
  refine bAnd ?_ ?_; rotate_left
  · exact b11
  refine bAnd ?_ ?_; rotate_left
  · exact b10
  refine bAnd ?_ ?_; rotate_left
  · exact b9
  refine bAnd ?_ ?_; rotate_left
  · exact qKnobs
  refine bAnd ?_ ?_; rotate_left
  · exact b7
  refine bAnd ?_ ?_; rotate_left
  · exact qStops
  refine bAnd ?_ ?_; rotate_left
  · exact b5
  refine bAnd ?_ ?_; rotate_left
  · exact b4
  refine bAnd ?_ ?_; rotate_left
  · exact b3
  refine bAnd ?_ ?_; rotate_left
  · exact qMaps
  refine bAnd ?_ ?_; rotate_left
  · exact qLaid
  exact b0
theorem a3 : Tryd.f4.isInstance Tryd.prog Rows.editJoinsRow.origin Rows.editJoinsRow.targs := of_decide_eq_true (by kernel_rfl)
theorem a4 : Tryd.f4.isWrapper Tryd.prog Rows.editJoinsRow.wrapper Rows.editJoinsRow.mainSum := by unfold Func.isWrapper; first | (rw [if_pos (by decide +kernel)]; kernel_rfl) | (rw [if_neg (by decide +kernel)]; exact ⟨rfl, rfl⟩)
/-- One input that fits, in a world that lays what is listed. -/
theorem wit (os : Os) (H : Type) (enc : TypeId × Value → H) : ∃ (w : World) (tape : Tape) (i : Input), w.os = os ∧ (w.forCall tape i).Shaped Tryd.prog ∧ i.vars = [] ∧ Input.okWide Tryd.prog (w.forCall tape i) .any w.heap.size 4 i ∧
      ((Rows.editJoinsSpec.pre enc Tryd.prog Tryd.f4 Rows.editJoinsRow.domain false (w.forCall tape i).memory i.args ∧ laidMetH Tryd.prog laid (w.forCall tape i).memory) ∧ sizedMet enc Tryd.prog Tryd.f4 (OpenSpec.ofChange Rows.editJoinsSpec) false (w.forCall tape i).memory i.args) ∧ Assume.holds {} Tryd.prog (lone (Frame.enter Tryd.prog 4 i.args .normal) [] (w.forCall tape i)) :=
  ChangeSpec.witness_shaped (enc := enc) (C := Tryd.checked) (os := os) (X := fun w _ => laidMetH Tryd.prog laid w) false (World.laidAll Tryd.prog os laid) #[.slice none 0 0, .int .i64 0, .int .i64 0] 8 (World.laidAll_os _ _ _)
    (World.shaped_of_ZipB (by kernel_rfl) (by kernel_rfl)) (by kernel_rfl) (by kernel_rfl) (by kernel_rfl)
    (by rw [MakeChecks.laidMetH_plain _ _ _ (by kernel_rfl)]; exact laidMet_laidAll _ (by kernel_rfl) (by kernel_rfl))
end EditJoinsRow
end Go.Proofs.YtefbgdnobnemkaaDoor
