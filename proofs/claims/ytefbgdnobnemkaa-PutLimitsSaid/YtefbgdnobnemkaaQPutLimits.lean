/-
  Closed facts of a row: PutLimits.
-/
import Derived.Test.YtefbgdnobnemkaaQP
namespace Go.Proofs.Ytefbgdnobnemkaa
open Go Go.RowKit Go.ChangeShapes Go.WideShapes Go.ChangeAt AM

namespace PutLimitsRow
theorem a1 : Try.prog.funcNamed "foolscap/foolscaplaw29.PutLimits" = some 18 := by kernel_rfl
theorem b0 : (Rows.putLimitsRow.wf (OpenSpec.ofChange Rows.putLimitsSpec)) = true := by kernel_rfl
theorem b3 : (Try.f18.params.all (Try.prog.readableRec ·)) = true := by kernel_rfl
theorem b4 : (namedTie Try.prog Rows.putLimitsRow.named Rows.putLimitsSpec.vars) = true := by kernel_rfl
theorem b5 : (Rows.putLimitsRow.stops == []) = true := by kernel_rfl
theorem b7 : (Rows.putLimitsRow.knobs == []) = true := by kernel_rfl
theorem b9 : (Rows.putLimitsRow.inPlace == Try.prog.inPlace 18) = true := by kernel_rfl
theorem b10 : (Rows.putLimitsRow.unfollowed == Try.prog.unfollowed 18) = true := by kernel_rfl
theorem b11 : (Rows.putLimitsRow.recurses == Try.prog.recurses 18) = true := by kernel_rfl
theorem b12 : (Rows.putLimitsRow.named == Try.prog.varsNamed 18) = true := by kernel_rfl
theorem b13 : (Rows.putLimitsRow.maps == (Try.f18.params.toList ++ Rows.putLimitsSpec.plain.varTypes Try.prog).any (Try.prog.mapsRec ·)) = true := by kernel_rfl
theorem b14 : (Rows.putLimitsRow.ifaces == (Try.f18.params.toList ++ Rows.putLimitsSpec.plain.varTypes Try.prog).any (Try.prog.ifacesRec ·)) = true := by kernel_rfl
theorem b15 : (Rows.putLimitsRow.mapsOut == Try.prog.mapsAmong Try.f18.resultTypes.toList) = true := by kernel_rfl
theorem b16 : (Rows.putLimitsRow.loops == (Try.f18.params.toList ++ Rows.putLimitsSpec.plain.varTypes Try.prog).any (Try.prog.loopsFrom ·)) = true := by kernel_rfl
theorem b17 : (Rows.putLimitsRow.wideKeys == (Try.f18.params.toList ++ Rows.putLimitsSpec.plain.varTypes Try.prog ++ Try.f18.resultTypes.toList).any (Try.prog.wideKeysFrom ·)) = true := by kernel_rfl
theorem b18 : (Rows.putLimitsSpec.vars.all (Try.prog.varReadable ·)) = true := by kernel_rfl
theorem b19 : (Try.f18.resultTypes.all (fun t => Try.prog.readableRec t && decide (t < Try.prog.types.size))) = true := by kernel_rfl
theorem b20 : (Rows.putLimitsRow.ifacesOut == Try.f18.resultTypes.toList.any (Try.prog.ifacesRec ·)) = true := by kernel_rfl
theorem b21 : (Rows.putLimitsRow.loopsOut == Try.f18.resultTypes.toList.any (Try.prog.loopsFrom ·)) = true := by kernel_rfl
theorem b22 : (Rows.putLimitsRow.plainKeys == Try.prog.plainKeys) = true := by rw [qPlain]; rfl
theorem b23 : (Rows.putLimitsRow.shortTexts.isNone) = true := by kernel_rfl
theorem b26 : (Rows.putLimitsRow.lifted == Try.prog.liftsFinal) = true := by rw [qLifts]; rfl
theorem b27 : (Try.prog.make == some Rows.putLimitsRow.make) = true := by rw [qMake]; rfl
theorem b28 : (Rows.putLimitsRow.kinds == (if Rows.putLimitsRow.domain.isEmpty then [] else Try.f18.params.toList.map fun t => match Try.prog.underlying t with | some (.int k) => some k | _ => none)) = true := by kernel_rfl
theorem b29 : (Rows.putLimitsRow.pinned == Rows.putLimitsRow.pinnedBy) = true := by kernel_rfl
theorem b30 : (Rows.putLimitsRow.veiled == (Try.f18.params.toList ++ Rows.putLimitsSpec.plain.varTypes Try.prog ++ Try.f18.resultTypes.toList).any (Try.prog.veiledRec ·)) = true := by kernel_rfl
theorem b31 : (Rows.putLimitsRow.veiledFits Try.prog Try.f18.params.toList (Try.f18.params.toList ++ Rows.putLimitsSpec.plain.varTypes Try.prog ++ Try.f18.resultTypes.toList)) = true := by kernel_rfl
set_option maxRecDepth 4000 in
theorem a2 : joinedFacts Try.prog 18 Try.f18 Rows.putLimitsSpec Rows.putLimitsRow = true := by
  unfold joinedFacts
  refine bAnd ?_ ?_; rotate_left
  · exact b31
  refine bAnd ?_ ?_; rotate_left
  · exact b30
  refine bAnd ?_ ?_; rotate_left
  · exact b29
  refine bAnd ?_ ?_; rotate_left
  · exact b28
  refine bAnd ?_ ?_; rotate_left
  · exact b27
  refine bAnd ?_ ?_; rotate_left
  · exact b26
  refine bAnd ?_ ?_; rotate_left
  · exact qEnter
  refine bAnd ?_ ?_; rotate_left
  · exact qHeard
  refine bAnd ?_ ?_; rotate_left
  · exact b23
  refine bAnd ?_ ?_; rotate_left
  · exact b22
  refine bAnd ?_ ?_; rotate_left
  · exact b21
  refine bAnd ?_ ?_; rotate_left
  · exact b20
  refine bAnd ?_ ?_; rotate_left
  · exact b19
  refine bAnd ?_ ?_; rotate_left
  · exact b18
  refine bAnd ?_ ?_; rotate_left
  · exact b17
  refine bAnd ?_ ?_; rotate_left
  · exact b16
  refine bAnd ?_ ?_; rotate_left
  · exact b15
  refine bAnd ?_ ?_; rotate_left
  · exact b14
  refine bAnd ?_ ?_; rotate_left
  · exact b13
  refine bAnd ?_ ?_; rotate_left
  · exact b12
  refine bAnd ?_ ?_; rotate_left
  · exact b11
  refine bAnd ?_ ?_; rotate_left
  · exact b10
  refine bAnd ?_ ?_; rotate_left
  · exact b9
  refine bAnd ?_ ?_; rotate_left
  · exact qKnobs
  refine bAnd ?_ ?_; rotate_left
  · exact b7
  refine bAnd ?_ ?_; rotate_left
  · exact qStops
  refine bAnd ?_ ?_; rotate_left
  · exact b5
  refine bAnd ?_ ?_; rotate_left
  · exact b4
  refine bAnd ?_ ?_; rotate_left
  · exact b3
  refine bAnd ?_ ?_; rotate_left
  · exact qMaps
  refine bAnd ?_ ?_; rotate_left
  · exact qLaid
  exact b0
theorem a3 : Try.f18.isInstance Try.prog Rows.putLimitsRow.origin Rows.putLimitsRow.targs := of_decide_eq_true (by kernel_rfl)
theorem a4 : Try.f18.isWrapper Try.prog Rows.putLimitsRow.wrapper Rows.putLimitsRow.mainSum := by unfold Func.isWrapper; first | (rw [if_pos (by decide +kernel)]; kernel_rfl) | (rw [if_neg (by decide +kernel)]; exact ⟨rfl, rfl⟩)
end PutLimitsRow
end Go.Proofs.Ytefbgdnobnemkaa
