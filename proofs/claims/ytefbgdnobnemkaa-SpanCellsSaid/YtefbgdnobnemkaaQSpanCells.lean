/-
  Closed facts of a row: SpanCells.
-/
import Derived.Test.YtefbgdnobnemkaaQP
namespace Go.Proofs.Ytefbgdnobnemkaa
open Go Go.RowKit Go.ChangeShapes Go.WideShapes Go.ChangeAt AM

namespace SpanCellsRow
theorem a1 : Try.prog.funcNamed "foolscap/foolscaplaw6.SpanCells" = some 6 := by kernel_rfl
theorem b0 : (Rows.spanCellsRow.wf (OpenSpec.ofChange Rows.spanCellsSpec)) = true := by kernel_rfl
theorem b3 : (Try.f6.params.all (Try.prog.readableRec ·)) = true := by kernel_rfl
theorem b4 : (namedTie Try.prog Rows.spanCellsRow.named Rows.spanCellsSpec.vars) = true := by kernel_rfl
theorem b5 : (Rows.spanCellsRow.stops == []) = true := by kernel_rfl
theorem b7 : (Rows.spanCellsRow.knobs == []) = true := by kernel_rfl
theorem b9 : (Rows.spanCellsRow.inPlace == Try.prog.inPlace 6) = true := by kernel_rfl
theorem b10 : (Rows.spanCellsRow.unfollowed == Try.prog.unfollowed 6) = true := by kernel_rfl
theorem b11 : (Rows.spanCellsRow.recurses == Try.prog.recurses 6) = true := by kernel_rfl
theorem b12 : (Rows.spanCellsRow.named == Try.prog.varsNamed 6) = true := by kernel_rfl
theorem b13 : (Rows.spanCellsRow.maps == (Try.f6.params.toList ++ Rows.spanCellsSpec.plain.varTypes Try.prog).any (Try.prog.mapsRec ·)) = true := by kernel_rfl
theorem b14 : (Rows.spanCellsRow.ifaces == (Try.f6.params.toList ++ Rows.spanCellsSpec.plain.varTypes Try.prog).any (Try.prog.ifacesRec ·)) = true := by kernel_rfl
theorem b15 : (Rows.spanCellsRow.mapsOut == Try.prog.mapsAmong Try.f6.resultTypes.toList) = true := by kernel_rfl
theorem b16 : (Rows.spanCellsRow.loops == (Try.f6.params.toList ++ Rows.spanCellsSpec.plain.varTypes Try.prog).any (Try.prog.loopsFrom ·)) = true := by kernel_rfl
theorem b17 : (Rows.spanCellsRow.wideKeys == (Try.f6.params.toList ++ Rows.spanCellsSpec.plain.varTypes Try.prog ++ Try.f6.resultTypes.toList).any (Try.prog.wideKeysFrom ·)) = true := by kernel_rfl
theorem b18 : (Rows.spanCellsSpec.vars.all (Try.prog.varReadable ·)) = true := by kernel_rfl
theorem b19 : (Try.f6.resultTypes.all (fun t => Try.prog.readableRec t && decide (t < Try.prog.types.size))) = true := by kernel_rfl
theorem b20 : (Rows.spanCellsRow.ifacesOut == Try.f6.resultTypes.toList.any (Try.prog.ifacesRec ·)) = true := by kernel_rfl
theorem b21 : (Rows.spanCellsRow.loopsOut == Try.f6.resultTypes.toList.any (Try.prog.loopsFrom ·)) = true := by kernel_rfl
theorem b22 : (Rows.spanCellsRow.plainKeys == Try.prog.plainKeys) = true := by rw [qPlain]; rfl
theorem b23 : (Rows.spanCellsRow.shortTexts.isNone) = true := by kernel_rfl
theorem b26 : (Rows.spanCellsRow.lifted == Try.prog.liftsFinal) = true := by rw [qLifts]; rfl
theorem b27 : (Try.prog.make == some Rows.spanCellsRow.make) = true := by rw [qMake]; rfl
theorem b28 : (Rows.spanCellsRow.kinds == (if Rows.spanCellsRow.domain.isEmpty then [] else Try.f6.params.toList.map fun t => match Try.prog.underlying t with | some (.int k) => some k | _ => none)) = true := by kernel_rfl
theorem b29 : (Rows.spanCellsRow.pinned == Rows.spanCellsRow.pinnedBy) = true := by kernel_rfl
theorem b30 : (Rows.spanCellsRow.veiled == (Try.f6.params.toList ++ Rows.spanCellsSpec.plain.varTypes Try.prog ++ Try.f6.resultTypes.toList).any (Try.prog.veiledRec ·)) = true := by kernel_rfl
theorem b31 : (Rows.spanCellsRow.veiledFits Try.prog Try.f6.params.toList (Try.f6.params.toList ++ Rows.spanCellsSpec.plain.varTypes Try.prog ++ Try.f6.resultTypes.toList)) = true := by kernel_rfl
set_option maxRecDepth 4000 in
theorem a2 : joinedFacts Try.prog 6 Try.f6 Rows.spanCellsSpec Rows.spanCellsRow = true := by
  unfold joinedFacts
  refine bAnd ?_ ?_; rotate_left
  · exact b31
  refine bAnd ?_ ?_; rotate_left
  · exact b30
  refine bAnd ?_ ?_; rotate_left
  · exact b29
  refine bAnd ?_ ?_; rotate_left
  · exact b28
  refine bAnd ?_ ?_; rotate_left
  · exact b27
  refine bAnd ?_ ?_; rotate_left
  · exact b26
  refine bAnd ?_ ?_; rotate_left
  · exact qEnter
  refine bAnd ?_ ?_; rotate_left
  · exact qHeard
  refine bAnd ?_ ?_; rotate_left
  · exact b23
  refine bAnd ?_ ?_; rotate_left
  · exact b22
  refine bAnd ?_ ?_; rotate_left
  · exact b21
  refine bAnd ?_ ?_; rotate_left
  · exact b20
  refine bAnd ?_ ?_; rotate_left
  · exact b19
  refine bAnd ?_ ?_; rotate_left
  · exact b18
  refine bAnd ?_ ?_; rotate_left
  · exact b17
  refine bAnd ?_ ?_; rotate_left
  · exact b16
  refine bAnd ?_ ?_; rotate_left
  · exact b15
  refine bAnd ?_ ?_; rotate_left
  · exact b14
  refine bAnd ?_ ?_; rotate_left
  · exact b13
  refine bAnd ?_ ?_; rotate_left
  · exact b12
  refine bAnd ?_ ?_; rotate_left
  · exact b11
  refine bAnd ?_ ?_; rotate_left
  · exact b10
  refine bAnd ?_ ?_; rotate_left
  · exact b9
  refine bAnd ?_ ?_; rotate_left
  · exact qKnobs
  refine bAnd ?_ ?_; rotate_left
  · exact b7
  refine bAnd ?_ ?_; rotate_left
  · exact qStops
  refine bAnd ?_ ?_; rotate_left
  · exact b5
  refine bAnd ?_ ?_; rotate_left
  · exact b4
  refine bAnd ?_ ?_; rotate_left
  · exact b3
  refine bAnd ?_ ?_; rotate_left
  · exact qMaps
  refine bAnd ?_ ?_; rotate_left
  · exact qLaid
  exact b0
theorem a3 : Try.f6.isInstance Try.prog Rows.spanCellsRow.origin Rows.spanCellsRow.targs := of_decide_eq_true (by kernel_rfl)
theorem a4 : Try.f6.isWrapper Try.prog Rows.spanCellsRow.wrapper Rows.spanCellsRow.mainSum := by unfold Func.isWrapper; first | (rw [if_pos (by decide +kernel)]; kernel_rfl) | (rw [if_neg (by decide +kernel)]; exact ⟨rfl, rfl⟩)
end SpanCellsRow
end Go.Proofs.Ytefbgdnobnemkaa
