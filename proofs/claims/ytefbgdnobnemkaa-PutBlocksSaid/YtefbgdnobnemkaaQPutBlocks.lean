/-
  Closed facts of a row: PutBlocks.
-/
import Derived.Test.YtefbgdnobnemkaaQP
namespace Go.Proofs.Ytefbgdnobnemkaa
open Go Go.RowKit Go.ChangeShapes Go.WideShapes Go.ChangeAt AM

namespace PutBlocksRow
theorem a1 : Try.prog.funcNamed "foolscap/foolscaplaw29.PutBlocks" = some 20 := by kernel_rfl
theorem b0 : (Rows.putBlocksRow.wf (OpenSpec.ofChange Rows.putBlocksSpec)) = true := by kernel_rfl
theorem b3 : (Try.f20.params.all (Try.prog.readableRec ·)) = true := by kernel_rfl
theorem b4 : (namedTie Try.prog Rows.putBlocksRow.named Rows.putBlocksSpec.vars) = true := by kernel_rfl
theorem b5 : (Rows.putBlocksRow.stops == []) = true := by kernel_rfl
theorem b7 : (Rows.putBlocksRow.knobs == []) = true := by kernel_rfl
theorem b9 : (Rows.putBlocksRow.inPlace == Try.prog.inPlace 20) = true := by kernel_rfl
theorem b10 : (Rows.putBlocksRow.unfollowed == Try.prog.unfollowed 20) = true := by kernel_rfl
theorem b11 : (Rows.putBlocksRow.recurses == Try.prog.recurses 20) = true := by kernel_rfl
theorem b12 : (Rows.putBlocksRow.named == Try.prog.varsNamed 20) = true := by kernel_rfl
theorem b13 : (Rows.putBlocksRow.maps == (Try.f20.params.toList ++ Rows.putBlocksSpec.plain.varTypes Try.prog).any (Try.prog.mapsRec ·)) = true := by kernel_rfl
theorem b14 : (Rows.putBlocksRow.ifaces == (Try.f20.params.toList ++ Rows.putBlocksSpec.plain.varTypes Try.prog).any (Try.prog.ifacesRec ·)) = true := by kernel_rfl
theorem b15 : (Rows.putBlocksRow.mapsOut == Try.prog.mapsAmong Try.f20.resultTypes.toList) = true := by kernel_rfl
theorem b16 : (Rows.putBlocksRow.loops == (Try.f20.params.toList ++ Rows.putBlocksSpec.plain.varTypes Try.prog).any (Try.prog.loopsFrom ·)) = true := by kernel_rfl
theorem b17 : (Rows.putBlocksRow.wideKeys == (Try.f20.params.toList ++ Rows.putBlocksSpec.plain.varTypes Try.prog ++ Try.f20.resultTypes.toList).any (Try.prog.wideKeysFrom ·)) = true := by kernel_rfl
theorem b18 : (Rows.putBlocksSpec.vars.all (Try.prog.varReadable ·)) = true := by kernel_rfl
theorem b19 : (Try.f20.resultTypes.all (fun t => Try.prog.readableRec t && decide (t < Try.prog.types.size))) = true := by kernel_rfl
theorem b20 : (Rows.putBlocksRow.ifacesOut == Try.f20.resultTypes.toList.any (Try.prog.ifacesRec ·)) = true := by kernel_rfl
theorem b21 : (Rows.putBlocksRow.loopsOut == Try.f20.resultTypes.toList.any (Try.prog.loopsFrom ·)) = true := by kernel_rfl
theorem b22 : (Rows.putBlocksRow.plainKeys == Try.prog.plainKeys) = true := by rw [qPlain]; rfl
theorem b23 : (Rows.putBlocksRow.shortTexts.isNone) = true := by kernel_rfl
theorem b26 : (Rows.putBlocksRow.lifted == Try.prog.liftsFinal) = true := by rw [qLifts]; rfl
theorem b27 : (Try.prog.make == some Rows.putBlocksRow.make) = true := by rw [qMake]; rfl
theorem b28 : (Rows.putBlocksRow.kinds == (if Rows.putBlocksRow.domain.isEmpty then [] else Try.f20.params.toList.map fun t => match Try.prog.underlying t with | some (.int k) => some k | _ => none)) = true := by kernel_rfl
theorem b29 : (Rows.putBlocksRow.pinned == Rows.putBlocksRow.pinnedBy) = true := by kernel_rfl
theorem b30 : (Rows.putBlocksRow.veiled == (Try.f20.params.toList ++ Rows.putBlocksSpec.plain.varTypes Try.prog ++ Try.f20.resultTypes.toList).any (Try.prog.veiledRec ·)) = true := by kernel_rfl
theorem b31 : (Rows.putBlocksRow.veiledFits Try.prog Try.f20.params.toList (Try.f20.params.toList ++ Rows.putBlocksSpec.plain.varTypes Try.prog ++ Try.f20.resultTypes.toList)) = true := by kernel_rfl
set_option maxRecDepth 4000 in
theorem a2 : joinedFacts Try.prog 20 Try.f20 Rows.putBlocksSpec Rows.putBlocksRow = true := by
  unfold joinedFacts
  refine bAnd ?_ ?_; rotate_left
  · exact b31
  refine bAnd ?_ ?_; rotate_left
  · exact b30
  refine bAnd ?_ ?_; rotate_left
  · exact b29
  refine bAnd ?_ ?_; rotate_left
  · exact b28
  refine bAnd ?_ ?_; rotate_left
  · exact b27
  refine bAnd ?_ ?_; rotate_left
  · exact b26
  refine bAnd ?_ ?_; rotate_left
  · exact qEnter
  refine bAnd ?_ ?_; rotate_left
  · exact qHeard
  refine bAnd ?_ ?_; rotate_left
  · exact b23
  refine bAnd ?_ ?_; rotate_left
  · exact b22
  refine bAnd ?_ ?_; rotate_left
  · exact b21
  refine bAnd ?_ ?_; rotate_left
  · exact b20
  refine bAnd ?_ ?_; rotate_left
  · exact b19
  refine bAnd ?_ ?_; rotate_left
  · exact b18
  refine bAnd ?_ ?_; rotate_left
  · exact b17
  refine bAnd ?_ ?_; rotate_left
  · exact b16
  refine bAnd ?_ ?_; rotate_left
  · exact b15
  refine bAnd ?_ ?_; rotate_left
  · exact b14
  refine bAnd ?_ ?_; rotate_left
  · exact b13
  refine bAnd ?_ ?_; rotate_left
  · exact b12
  refine bAnd ?_ ?_; rotate_left
  · exact b11
  refine bAnd ?_ ?_; rotate_left
  · exact b10
  refine bAnd ?_ ?_; rotate_left
  · exact b9
  refine bAnd ?_ ?_; rotate_left
  · exact qKnobs
  refine bAnd ?_ ?_; rotate_left
  · exact b7
  refine bAnd ?_ ?_; rotate_left
  · exact qStops
  refine bAnd ?_ ?_; rotate_left
  · exact b5
  refine bAnd ?_ ?_; rotate_left
  · exact b4
  refine bAnd ?_ ?_; rotate_left
  · exact b3
  refine bAnd ?_ ?_; rotate_left
  · exact qMaps
  refine bAnd ?_ ?_; rotate_left
  · exact qLaid
  exact b0
theorem a3 : Try.f20.isInstance Try.prog Rows.putBlocksRow.origin Rows.putBlocksRow.targs := of_decide_eq_true (by kernel_rfl)
theorem a4 : Try.f20.isWrapper Try.prog Rows.putBlocksRow.wrapper Rows.putBlocksRow.mainSum := by unfold Func.isWrapper; first | (rw [if_pos (by decide +kernel)]; kernel_rfl) | (rw [if_neg (by decide +kernel)]; exact ⟨rfl, rfl⟩)
end PutBlocksRow
end Go.Proofs.Ytefbgdnobnemkaa
