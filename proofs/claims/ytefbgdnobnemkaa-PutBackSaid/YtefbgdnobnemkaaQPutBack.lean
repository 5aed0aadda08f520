/-
  Closed facts of a row: PutBack.
-/
import Derived.Test.YtefbgdnobnemkaaQP
namespace Go.Proofs.Ytefbgdnobnemkaa
open Go Go.RowKit Go.ChangeShapes Go.WideShapes Go.ChangeAt AM

namespace PutBackRow
theorem a1 : Try.prog.funcNamed "foolscap/foolscaplaw29.PutBack" = some 17 := by kernel_rfl
theorem b0 : (Rows.putBackRow.wf (OpenSpec.ofChange Rows.putBackSpec)) = true := by kernel_rfl
theorem b3 : (Try.f17.params.all (Try.prog.readableRec ·)) = true := by kernel_rfl
theorem b4 : (namedTie Try.prog Rows.putBackRow.named Rows.putBackSpec.vars) = true := by kernel_rfl
theorem b5 : (Rows.putBackRow.stops == []) = true := by kernel_rfl
theorem b7 : (Rows.putBackRow.knobs == []) = true := by kernel_rfl
theorem b9 : (Rows.putBackRow.inPlace == Try.prog.inPlace 17) = true := by kernel_rfl
theorem b10 : (Rows.putBackRow.unfollowed == Try.prog.unfollowed 17) = true := by kernel_rfl
theorem b11 : (Rows.putBackRow.recurses == Try.prog.recurses 17) = true := by kernel_rfl
theorem b12 : (Rows.putBackRow.named == Try.prog.varsNamed 17) = true := by kernel_rfl
theorem b13 : (Rows.putBackRow.maps == (Try.f17.params.toList ++ Rows.putBackSpec.plain.varTypes Try.prog).any (Try.prog.mapsRec ·)) = true := by kernel_rfl
theorem b14 : (Rows.putBackRow.ifaces == (Try.f17.params.toList ++ Rows.putBackSpec.plain.varTypes Try.prog).any (Try.prog.ifacesRec ·)) = true := by kernel_rfl
theorem b15 : (Rows.putBackRow.mapsOut == Try.prog.mapsAmong Try.f17.resultTypes.toList) = true := by kernel_rfl
theorem b16 : (Rows.putBackRow.loops == (Try.f17.params.toList ++ Rows.putBackSpec.plain.varTypes Try.prog).any (Try.prog.loopsFrom ·)) = true := by kernel_rfl
theorem b17 : (Rows.putBackRow.wideKeys == (Try.f17.params.toList ++ Rows.putBackSpec.plain.varTypes Try.prog ++ Try.f17.resultTypes.toList).any (Try.prog.wideKeysFrom ·)) = true := by kernel_rfl
theorem b18 : (Rows.putBackSpec.vars.all (Try.prog.varReadable ·)) = true := by kernel_rfl
theorem b19 : (Try.f17.resultTypes.all (fun t => Try.prog.readableRec t && decide (t < Try.prog.types.size))) = true := by kernel_rfl
theorem b20 : (Rows.putBackRow.ifacesOut == Try.f17.resultTypes.toList.any (Try.prog.ifacesRec ·)) = true := by kernel_rfl
theorem b21 : (Rows.putBackRow.loopsOut == Try.f17.resultTypes.toList.any (Try.prog.loopsFrom ·)) = true := by kernel_rfl
theorem b22 : (Rows.putBackRow.plainKeys == Try.prog.plainKeys) = true := by rw [qPlain]; rfl
theorem b23 : (Rows.putBackRow.shortTexts.isNone) = true := by kernel_rfl
theorem b26 : (Rows.putBackRow.lifted == Try.prog.liftsFinal) = true := by rw [qLifts]; rfl
theorem b27 : (Try.prog.make == some Rows.putBackRow.make) = true := by rw [qMake]; rfl
theorem b28 : (Rows.putBackRow.kinds == (if Rows.putBackRow.domain.isEmpty then [] else Try.f17.params.toList.map fun t => match Try.prog.underlying t with | some (.int k) => some k | _ => none)) = true := by kernel_rfl
theorem b29 : (Rows.putBackRow.pinned == Rows.putBackRow.pinnedBy) = true := by kernel_rfl
theorem b30 : (Rows.putBackRow.veiled == (Try.f17.params.toList ++ Rows.putBackSpec.plain.varTypes Try.prog ++ Try.f17.resultTypes.toList).any (Try.prog.veiledRec ·)) = true := by kernel_rfl
theorem b31 : (Rows.putBackRow.veiledFits Try.prog Try.f17.params.toList (Try.f17.params.toList ++ Rows.putBackSpec.plain.varTypes Try.prog ++ Try.f17.resultTypes.toList)) = true := by kernel_rfl
set_option maxRecDepth 4000 in
theorem a2 : joinedFacts Try.prog 17 Try.f17 Rows.putBackSpec Rows.putBackRow = true := by
  unfold joinedFacts
  refine bAnd ?_ ?_; rotate_left
  · exact b31
  refine bAnd ?_ ?_; rotate_left
  · exact b30
  refine bAnd ?_ ?_; rotate_left
  · exact b29
  refine bAnd ?_ ?_; rotate_left
  · exact b28
  refine bAnd ?_ ?_; rotate_left
  · exact b27
  refine bAnd ?_ ?_; rotate_left
  · exact b26
  refine bAnd ?_ ?_; rotate_left
  · exact qEnter
  refine bAnd ?_ ?_; rotate_left
  · exact qHeard
  refine bAnd ?_ ?_; rotate_left
  · exact b23
  refine bAnd ?_ ?_; rotate_left
  · exact b22
  refine bAnd ?_ ?_; rotate_left
  · exact b21
  refine bAnd ?_ ?_; rotate_left
  · exact b20
  refine bAnd ?_ ?_; rotate_left
  · exact b19
  refine bAnd ?_ ?_; rotate_left
  · exact b18
  refine bAnd ?_ ?_; rotate_left
  · exact b17
  refine bAnd ?_ ?_; rotate_left
  · exact b16
  refine bAnd ?_ ?_; rotate_left
  · exact b15
  refine bAnd ?_ ?_; rotate_left
  · exact b14
  refine bAnd ?_ ?_; rotate_left
  · exact b13
  refine bAnd ?_ ?_; rotate_left
  · exact b12
  refine bAnd ?_ ?_; rotate_left
  · exact b11
  refine bAnd ?_ ?_; rotate_left
  · exact b10
  refine bAnd ?_ ?_; rotate_left
  · exact b9
  refine bAnd ?_ ?_; rotate_left
  · exact qKnobs
  refine bAnd ?_ ?_; rotate_left
  · exact b7
  refine bAnd ?_ ?_; rotate_left
  · exact qStops
  refine bAnd ?_ ?_; rotate_left
  · exact b5
  refine bAnd ?_ ?_; rotate_left
  · exact b4
  refine bAnd ?_ ?_; rotate_left
  · exact b3
  refine bAnd ?_ ?_; rotate_left
  · exact qMaps
  refine bAnd ?_ ?_; rotate_left
  · exact qLaid
  exact b0
theorem a3 : Try.f17.isInstance Try.prog Rows.putBackRow.origin Rows.putBackRow.targs := of_decide_eq_true (by kernel_rfl)
theorem a4 : Try.f17.isWrapper Try.prog Rows.putBackRow.wrapper Rows.putBackRow.mainSum := by unfold Func.isWrapper; first | (rw [if_pos (by decide +kernel)]; kernel_rfl) | (rw [if_neg (by decide +kernel)]; exact ⟨rfl, rfl⟩)
end PutBackRow
end Go.Proofs.Ytefbgdnobnemkaa
