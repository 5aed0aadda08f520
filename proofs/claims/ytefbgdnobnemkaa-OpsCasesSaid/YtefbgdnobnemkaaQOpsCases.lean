/-
  Closed facts of a row: OpsCases.
-/
import Derived.Test.YtefbgdnobnemkaaQP
namespace Go.Proofs.Ytefbgdnobnemkaa
open Go Go.RowKit Go.ChangeShapes Go.WideShapes Go.ChangeAt AM

namespace OpsCasesRow
theorem a1 : Try.prog.funcNamed "foolscap/foolscaplaw28.OpsCases" = some 16 := by kernel_rfl
theorem b0 : (Rows.opsCasesRow.wf (OpenSpec.ofChange Rows.opsCasesSpec)) = true := by kernel_rfl
theorem b3 : (Try.f16.params.all (Try.prog.readableRec ·)) = true := by kernel_rfl
theorem b4 : (namedTie Try.prog Rows.opsCasesRow.named Rows.opsCasesSpec.vars) = true := by kernel_rfl
theorem b5 : (Rows.opsCasesRow.stops == []) = true := by kernel_rfl
theorem b7 : (Rows.opsCasesRow.knobs == []) = true := by kernel_rfl
theorem b9 : (Rows.opsCasesRow.inPlace == Try.prog.inPlace 16) = true := by kernel_rfl
theorem b10 : (Rows.opsCasesRow.unfollowed == Try.prog.unfollowed 16) = true := by kernel_rfl
theorem b11 : (Rows.opsCasesRow.recurses == Try.prog.recurses 16) = true := by kernel_rfl
theorem b12 : (Rows.opsCasesRow.named == Try.prog.varsNamed 16) = true := by kernel_rfl
theorem b13 : (Rows.opsCasesRow.maps == (Try.f16.params.toList ++ Rows.opsCasesSpec.plain.varTypes Try.prog).any (Try.prog.mapsRec ·)) = true := by kernel_rfl
theorem b14 : (Rows.opsCasesRow.ifaces == (Try.f16.params.toList ++ Rows.opsCasesSpec.plain.varTypes Try.prog).any (Try.prog.ifacesRec ·)) = true := by kernel_rfl
theorem b15 : (Rows.opsCasesRow.mapsOut == Try.prog.mapsAmong Try.f16.resultTypes.toList) = true := by kernel_rfl
theorem b16 : (Rows.opsCasesRow.loops == (Try.f16.params.toList ++ Rows.opsCasesSpec.plain.varTypes Try.prog).any (Try.prog.loopsFrom ·)) = true := by kernel_rfl
theorem b17 : (Rows.opsCasesRow.wideKeys == (Try.f16.params.toList ++ Rows.opsCasesSpec.plain.varTypes Try.prog ++ Try.f16.resultTypes.toList).any (Try.prog.wideKeysFrom ·)) = true := by kernel_rfl
theorem b18 : (Rows.opsCasesSpec.vars.all (Try.prog.varReadable ·)) = true := by kernel_rfl
theorem b19 : (Try.f16.resultTypes.all (fun t => Try.prog.readableRec t && decide (t < Try.prog.types.size))) = true := by kernel_rfl
theorem b20 : (Rows.opsCasesRow.ifacesOut == Try.f16.resultTypes.toList.any (Try.prog.ifacesRec ·)) = true := by kernel_rfl
theorem b21 : (Rows.opsCasesRow.loopsOut == Try.f16.resultTypes.toList.any (Try.prog.loopsFrom ·)) = true := by kernel_rfl
theorem b22 : (Rows.opsCasesRow.plainKeys == Try.prog.plainKeys) = true := by rw [qPlain]; rfl
theorem b23 : (Rows.opsCasesRow.shortTexts.isNone) = true := by kernel_rfl
theorem b26 : (Rows.opsCasesRow.lifted == Try.prog.liftsFinal) = true := by rw [qLifts]; rfl
theorem b27 : (Try.prog.make == some Rows.opsCasesRow.make) = true := by rw [qMake]; rfl
theorem b28 : (Rows.opsCasesRow.kinds == (if Rows.opsCasesRow.domain.isEmpty then [] else Try.f16.params.toList.map fun t => match Try.prog.underlying t with | some (.int k) => some k | _ => none)) = true := by kernel_rfl
theorem b29 : (Rows.opsCasesRow.pinned == Rows.opsCasesRow.pinnedBy) = true := by kernel_rfl
theorem b30 : (Rows.opsCasesRow.veiled == (Try.f16.params.toList ++ Rows.opsCasesSpec.plain.varTypes Try.prog ++ Try.f16.resultTypes.toList).any (Try.prog.veiledRec ·)) = true := by kernel_rfl
theorem b31 : (Rows.opsCasesRow.veiledFits Try.prog Try.f16.params.toList (Try.f16.params.toList ++ Rows.opsCasesSpec.plain.varTypes Try.prog ++ Try.f16.resultTypes.toList)) = true := by kernel_rfl
set_option maxRecDepth 4000 in
theorem a2 : joinedFacts Try.prog 16 Try.f16 Rows.opsCasesSpec Rows.opsCasesRow = true := by
  unfold joinedFacts
  refine bAnd ?_ ?_; rotate_left
  · exact b31
  refine bAnd ?_ ?_; rotate_left
  · exact b30
  refine bAnd ?_ ?_; rotate_left
  · exact b29
  refine bAnd ?_ ?_; rotate_left
  · exact b28
  refine bAnd ?_ ?_; rotate_left
  · exact b27
  refine bAnd ?_ ?_; rotate_left
  · exact b26
  refine bAnd ?_ ?_; rotate_left
  · exact qEnter
  refine bAnd ?_ ?_; rotate_left
  · exact qHeard
  refine bAnd ?_ ?_; rotate_left
  · exact b23
  refine bAnd ?_ ?_; rotate_left
  · exact b22
  refine bAnd ?_ ?_; rotate_left
  · exact b21
  refine bAnd ?_ ?_; rotate_left
  · exact b20
  refine bAnd ?_ ?_; rotate_left
  · exact b19
  refine bAnd ?_ ?_; rotate_left
  · exact b18
  refine bAnd ?_ ?_; rotate_left
  · exact b17
  refine bAnd ?_ ?_; rotate_left
  · exact b16
  refine bAnd ?_ ?_; rotate_left
  · exact b15
  refine bAnd ?_ ?_; rotate_left
  · exact b14
  refine bAnd ?_ ?_; rotate_left
  · exact b13
  refine bAnd ?_ ?_; rotate_left
  · exact b12
  refine bAnd ?_ ?_; rotate_left
  · exact b11
  refine bAnd ?_ ?_; rotate_left
  · exact b10
  refine bAnd ?_ ?_; rotate_left
  · exact b9
  refine bAnd ?_ ?_; rotate_left
  · exact qKnobs
  refine bAnd ?_ ?_; rotate_left
  · exact b7
  refine bAnd ?_ ?_; rotate_left
  · exact qStops
  refine bAnd ?_ ?_; rotate_left
  · exact b5
  refine bAnd ?_ ?_; rotate_left
  · exact b4
  refine bAnd ?_ ?_; rotate_left
  · exact b3
  refine bAnd ?_ ?_; rotate_left
  · exact qMaps
  refine bAnd ?_ ?_; rotate_left
  · exact qLaid
  exact b0
theorem a3 : Try.f16.isInstance Try.prog Rows.opsCasesRow.origin Rows.opsCasesRow.targs := of_decide_eq_true (by kernel_rfl)
theorem a4 : Try.f16.isWrapper Try.prog Rows.opsCasesRow.wrapper Rows.opsCasesRow.mainSum := by unfold Func.isWrapper; first | (rw [if_pos (by decide +kernel)]; kernel_rfl) | (rw [if_neg (by decide +kernel)]; exact ⟨rfl, rfl⟩)
end OpsCasesRow
end Go.Proofs.Ytefbgdnobnemkaa
