/-
  Closed facts of a row: PutLines.
-/
import Derived.Test.YtefbgdnobnemkaaQP
namespace Go.Proofs.Ytefbgdnobnemkaa
open Go Go.RowKit Go.ChangeShapes Go.WideShapes Go.ChangeAt AM

namespace PutLinesRow
theorem a1 : Try.prog.funcNamed "foolscap/foolscaplaw29.PutLines" = some 19 := by kernel_rfl
theorem b0 : (Rows.putLinesRow.wf (OpenSpec.ofChange Rows.putLinesSpec)) = true := by kernel_rfl
theorem b3 : (Try.f19.params.all (Try.prog.readableRec ·)) = true := by kernel_rfl
theorem b4 : (namedTie Try.prog Rows.putLinesRow.named Rows.putLinesSpec.vars) = true := by kernel_rfl
theorem b5 : (Rows.putLinesRow.stops == []) = true := by kernel_rfl
theorem b7 : (Rows.putLinesRow.knobs == []) = true := by kernel_rfl
theorem b9 : (Rows.putLinesRow.inPlace == Try.prog.inPlace 19) = true := by kernel_rfl
theorem b10 : (Rows.putLinesRow.unfollowed == Try.prog.unfollowed 19) = true := by kernel_rfl
theorem b11 : (Rows.putLinesRow.recurses == Try.prog.recurses 19) = true := by kernel_rfl
theorem b12 : (Rows.putLinesRow.named == Try.prog.varsNamed 19) = true := by kernel_rfl
theorem b13 : (Rows.putLinesRow.maps == (Try.f19.params.toList ++ Rows.putLinesSpec.plain.varTypes Try.prog).any (Try.prog.mapsRec ·)) = true := by kernel_rfl
theorem b14 : (Rows.putLinesRow.ifaces == (Try.f19.params.toList ++ Rows.putLinesSpec.plain.varTypes Try.prog).any (Try.prog.ifacesRec ·)) = true := by kernel_rfl
theorem b15 : (Rows.putLinesRow.mapsOut == Try.prog.mapsAmong Try.f19.resultTypes.toList) = true := by kernel_rfl
theorem b16 : (Rows.putLinesRow.loops == (Try.f19.params.toList ++ Rows.putLinesSpec.plain.varTypes Try.prog).any (Try.prog.loopsFrom ·)) = true := by kernel_rfl
theorem b17 : (Rows.putLinesRow.wideKeys == (Try.f19.params.toList ++ Rows.putLinesSpec.plain.varTypes Try.prog ++ Try.f19.resultTypes.toList).any (Try.prog.wideKeysFrom ·)) = true := by kernel_rfl
theorem b18 : (Rows.putLinesSpec.vars.all (Try.prog.varReadable ·)) = true := by kernel_rfl
theorem b19 : (Try.f19.resultTypes.all (fun t => Try.prog.readableRec t && decide (t < Try.prog.types.size))) = true := by kernel_rfl
theorem b20 : (Rows.putLinesRow.ifacesOut == Try.f19.resultTypes.toList.any (Try.prog.ifacesRec ·)) = true := by kernel_rfl
theorem b21 : (Rows.putLinesRow.loopsOut == Try.f19.resultTypes.toList.any (Try.prog.loopsFrom ·)) = true := by kernel_rfl
theorem b22 : (Rows.putLinesRow.plainKeys == Try.prog.plainKeys) = true := by rw [qPlain]; rfl
theorem b23 : (Rows.putLinesRow.shortTexts.isNone) = true := by kernel_rfl
theorem b26 : (Rows.putLinesRow.lifted == Try.prog.liftsFinal) = true := by rw [qLifts]; rfl
theorem b27 : (Try.prog.make == some Rows.putLinesRow.make) = true := by rw [qMake]; rfl
theorem b28 : (Rows.putLinesRow.kinds == (if Rows.putLinesRow.domain.isEmpty then [] else Try.f19.params.toList.map fun t => match Try.prog.underlying t with | some (.int k) => some k | _ => none)) = true := by kernel_rfl
theorem b29 : (Rows.putLinesRow.pinned == Rows.putLinesRow.pinnedBy) = true := by kernel_rfl
theorem b30 : (Rows.putLinesRow.veiled == (Try.f19.params.toList ++ Rows.putLinesSpec.plain.varTypes Try.prog ++ Try.f19.resultTypes.toList).any (Try.prog.veiledRec ·)) = true := by kernel_rfl
theorem b31 : (Rows.putLinesRow.veiledFits Try.prog Try.f19.params.toList (Try.f19.params.toList ++ Rows.putLinesSpec.plain.varTypes Try.prog ++ Try.f19.resultTypes.toList)) = true := by kernel_rfl
set_option maxRecDepth 4000 in
theorem a2 : joinedFacts Try.prog 19 Try.f19 Rows.putLinesSpec Rows.putLinesRow = true := by
  unfold joinedFacts
  refine bAnd ?_ ?_; rotate_left
  · exact b31
  refine bAnd ?_ ?_; rotate_left
  · exact b30
  refine bAnd ?_ ?_; rotate_left
  · exact b29
  refine bAnd ?_ ?_; rotate_left
  · exact b28
  refine bAnd ?_ ?_; rotate_left
  · exact b27
  refine bAnd ?_ ?_; rotate_left
  · exact b26
  refine bAnd ?_ ?_; rotate_left
  · exact qEnter
  refine bAnd ?_ ?_; rotate_left
  · exact qHeard
  refine bAnd ?_ ?_; rotate_left
  · exact b23
  refine bAnd ?_ ?_; rotate_left
  · exact b22
  refine bAnd ?_ ?_; rotate_left
  · exact b21
  refine bAnd ?_ ?_; rotate_left
  · exact b20
  refine bAnd ?_ ?_; rotate_left
  · exact b19
  refine bAnd ?_ ?_; rotate_left
  · exact b18
  refine bAnd ?_ ?_; rotate_left
  · exact b17
  refine bAnd ?_ ?_; rotate_left
  · exact b16
  refine bAnd ?_ ?_; rotate_left
  · exact b15
  refine bAnd ?_ ?_; rotate_left
  · exact b14
  refine bAnd ?_ ?_; rotate_left
  · exact b13
  refine bAnd ?_ ?_; rotate_left
  · exact b12
  refine bAnd ?_ ?_; rotate_left
  · exact b11
  refine bAnd ?_ ?_; rotate_left
  · exact b10
  refine bAnd ?_ ?_; rotate_left
  · exact b9
  refine bAnd ?_ ?_; rotate_left
  · exact qKnobs
  refine bAnd ?_ ?_; rotate_left
  · exact b7
  refine bAnd ?_ ?_; rotate_left
  · exact qStops
  refine bAnd ?_ ?_; rotate_left
  · exact b5
  refine bAnd ?_ ?_; rotate_left
  · exact b4
  refine bAnd ?_ ?_; rotate_left
  · exact b3
  refine bAnd ?_ ?_; rotate_left
  · exact qMaps
  refine bAnd ?_ ?_; rotate_left
  · exact qLaid
  exact b0
theorem a3 : Try.f19.isInstance Try.prog Rows.putLinesRow.origin Rows.putLinesRow.targs := of_decide_eq_true (by kernel_rfl)
theorem a4 : Try.f19.isWrapper Try.prog Rows.putLinesRow.wrapper Rows.putLinesRow.mainSum := by unfold Func.isWrapper; first | (rw [if_pos (by decide +kernel)]; kernel_rfl) | (rw [if_neg (by decide +kernel)]; exact ⟨rfl, rfl⟩)
end PutLinesRow
end Go.Proofs.Ytefbgdnobnemkaa
