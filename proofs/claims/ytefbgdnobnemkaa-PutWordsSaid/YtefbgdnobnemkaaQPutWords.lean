/-
  Closed facts of a row: PutWords.
-/
import Derived.Test.YtefbgdnobnemkaaQP
namespace Go.Proofs.Ytefbgdnobnemkaa
open Go Go.RowKit Go.ChangeShapes Go.WideShapes Go.ChangeAt AM

namespace PutWordsRow
theorem a1 : Try.prog.funcNamed "foolscap/foolscaplaw29.PutWords" = some 21 := by kernel_rfl
theorem b0 : (Rows.putWordsRow.wf (OpenSpec.ofChange Rows.putWordsSpec)) = true := by kernel_rfl
theorem b3 : (Try.f21.params.all (Try.prog.readableRec ·)) = true := by kernel_rfl
theorem b4 : (namedTie Try.prog Rows.putWordsRow.named Rows.putWordsSpec.vars) = true := by kernel_rfl
theorem b5 : (Rows.putWordsRow.stops == []) = true := by kernel_rfl
theorem b7 : (Rows.putWordsRow.knobs == []) = true := by kernel_rfl
theorem b9 : (Rows.putWordsRow.inPlace == Try.prog.inPlace 21) = true := by kernel_rfl
theorem b10 : (Rows.putWordsRow.unfollowed == Try.prog.unfollowed 21) = true := by kernel_rfl
theorem b11 : (Rows.putWordsRow.recurses == Try.prog.recurses 21) = true := by kernel_rfl
theorem b12 : (Rows.putWordsRow.named == Try.prog.varsNamed 21) = true := by kernel_rfl
theorem b13 : (Rows.putWordsRow.maps == (Try.f21.params.toList ++ Rows.putWordsSpec.plain.varTypes Try.prog).any (Try.prog.mapsRec ·)) = true := by kernel_rfl
theorem b14 : (Rows.putWordsRow.ifaces == (Try.f21.params.toList ++ Rows.putWordsSpec.plain.varTypes Try.prog).any (Try.prog.ifacesRec ·)) = true := by kernel_rfl
theorem b15 : (Rows.putWordsRow.mapsOut == Try.prog.mapsAmong Try.f21.resultTypes.toList) = true := by kernel_rfl
theorem b16 : (Rows.putWordsRow.loops == (Try.f21.params.toList ++ Rows.putWordsSpec.plain.varTypes Try.prog).any (Try.prog.loopsFrom ·)) = true := by kernel_rfl
theorem b17 : (Rows.putWordsRow.wideKeys == (Try.f21.params.toList ++ Rows.putWordsSpec.plain.varTypes Try.prog ++ Try.f21.resultTypes.toList).any (Try.prog.wideKeysFrom ·)) = true := by kernel_rfl
theorem b18 : (Rows.putWordsSpec.vars.all (Try.prog.varReadable ·)) = true := by kernel_rfl
theorem b19 : (Try.f21.resultTypes.all (fun t => Try.prog.readableRec t && decide (t < Try.prog.types.size))) = true := by kernel_rfl
theorem b20 : (Rows.putWordsRow.ifacesOut == Try.f21.resultTypes.toList.any (Try.prog.ifacesRec ·)) = true := by kernel_rfl
theorem b21 : (Rows.putWordsRow.loopsOut == Try.f21.resultTypes.toList.any (Try.prog.loopsFrom ·)) = true := by kernel_rfl
theorem b22 : (Rows.putWordsRow.plainKeys == Try.prog.plainKeys) = true := by rw [qPlain]; rfl
theorem b23 : (Rows.putWordsRow.shortTexts.isNone) = true := by kernel_rfl
theorem b26 : (Rows.putWordsRow.lifted == Try.prog.liftsFinal) = true := by rw [qLifts]; rfl
theorem b27 : (Try.prog.make == some Rows.putWordsRow.make) = true := by rw [qMake]; rfl
theorem b28 : (Rows.putWordsRow.kinds == (if Rows.putWordsRow.domain.isEmpty then [] else Try.f21.params.toList.map fun t => match Try.prog.underlying t with | some (.int k) => some k | _ => none)) = true := by kernel_rfl
theorem b29 : (Rows.putWordsRow.pinned == Rows.putWordsRow.pinnedBy) = true := by kernel_rfl
theorem b30 : (Rows.putWordsRow.veiled == (Try.f21.params.toList ++ Rows.putWordsSpec.plain.varTypes Try.prog ++ Try.f21.resultTypes.toList).any (Try.prog.veiledRec ·)) = true := by kernel_rfl
theorem b31 : (Rows.putWordsRow.veiledFits Try.prog Try.f21.params.toList (Try.f21.params.toList ++ Rows.putWordsSpec.plain.varTypes Try.prog ++ Try.f21.resultTypes.toList)) = true := by kernel_rfl
set_option maxRecDepth 4000 in
theorem a2 : joinedFacts Try.prog 21 Try.f21 Rows.putWordsSpec Rows.putWordsRow = true := by
  unfold joinedFacts
  refine bAnd ?_ ?_; rotate_left
  · exact b31
  refine bAnd ?_ ?_; rotate_left
  · exact b30
  refine bAnd ?_ ?_; rotate_left
  · exact b29
  refine bAnd ?_ ?_; rotate_left
  · exact b28
  refine bAnd ?_ ?_; rotate_left
  · exact b27
  refine bAnd ?_ ?_; rotate_left
  · exact b26
  refine bAnd ?_ ?_; rotate_left
  · exact qEnter
  refine bAnd ?_ ?_; rotate_left
  · exact qHeard
  refine bAnd ?_ ?_; rotate_left
  · exact b23
  refine bAnd ?_ ?_; rotate_left
  · exact b22
  refine bAnd ?_ ?_; rotate_left
  · exact b21
  refine bAnd ?_ ?_; rotate_left
  · exact b20
  refine bAnd ?_ ?_; rotate_left
  · exact b19
  refine bAnd ?_ ?_; rotate_left
  · exact b18
  refine bAnd ?_ ?_; rotate_left
  · exact b17
  refine bAnd ?_ ?_; rotate_left
  · exact b16
  refine bAnd ?_ ?_; rotate_left
  · exact b15
  refine bAnd ?_ ?_; rotate_left
  · exact b14
  refine bAnd ?_ ?_; rotate_left
  · exact b13
  refine bAnd ?_ ?_; rotate_left
  · exact b12
  refine bAnd ?_ ?_; rotate_left
  · exact b11
  refine bAnd ?_ ?_; rotate_left
  · exact b10
  refine bAnd ?_ ?_; rotate_left
  · exact b9
  refine bAnd ?_ ?_; rotate_left
  · exact qKnobs
  refine bAnd ?_ ?_; rotate_left
  · exact b7
  refine bAnd ?_ ?_; rotate_left
  · exact qStops
  refine bAnd ?_ ?_; rotate_left
  · exact b5
  refine bAnd ?_ ?_; rotate_left
  · exact b4
  refine bAnd ?_ ?_; rotate_left
  · exact b3
  refine bAnd ?_ ?_; rotate_left
  · exact qMaps
  refine bAnd ?_ ?_; rotate_left
  · exact qLaid
  exact b0
theorem a3 : Try.f21.isInstance Try.prog Rows.putWordsRow.origin Rows.putWordsRow.targs := of_decide_eq_true (by kernel_rfl)
theorem a4 : Try.f21.isWrapper Try.prog Rows.putWordsRow.wrapper Rows.putWordsRow.mainSum := by unfold Func.isWrapper; first | (rw [if_pos (by decide +kernel)]; kernel_rfl) | (rw [if_neg (by decide +kernel)]; exact ⟨rfl, rfl⟩)
end PutWordsRow
end Go.Proofs.Ytefbgdnobnemkaa
