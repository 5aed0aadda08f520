/-
  Closed facts of a row: InsertBeside.
-/
import Derived.Test.YtefbgdnobnemkaaQP
namespace Go.Proofs.Ytefbgdnobnemkaa
open Go Go.RowKit Go.ChangeShapes Go.WideShapes Go.ChangeAt AM

namespace InsertBesideRow
theorem a1 : Try.prog.funcNamed "foolscap/foolscaplaw31.InsertBeside" = some 13 := by kernel_rfl
theorem b0 : (Rows.insertBesideRow.wf (OpenSpec.ofChange Rows.insertBesideSpec)) = true := by kernel_rfl
theorem b3 : (Try.f13.params.all (Try.prog.readableRec ·)) = true := by kernel_rfl
theorem b4 : (namedTie Try.prog Rows.insertBesideRow.named Rows.insertBesideSpec.vars) = true := by kernel_rfl
theorem b5 : (Rows.insertBesideRow.stops == []) = true := by kernel_rfl
theorem b7 : (Rows.insertBesideRow.knobs == []) = true := by kernel_rfl
theorem b9 : (Rows.insertBesideRow.inPlace == Try.prog.inPlace 13) = true := by kernel_rfl
theorem b10 : (Rows.insertBesideRow.unfollowed == Try.prog.unfollowed 13) = true := by kernel_rfl
theorem b11 : (Rows.insertBesideRow.recurses == Try.prog.recurses 13) = true := by kernel_rfl
theorem b12 : (Rows.insertBesideRow.named == Try.prog.varsNamed 13) = true := by kernel_rfl
theorem b13 : (Rows.insertBesideRow.maps == (Try.f13.params.toList ++ Rows.insertBesideSpec.plain.varTypes Try.prog).any (Try.prog.mapsRec ·)) = true := by kernel_rfl
theorem b14 : (Rows.insertBesideRow.ifaces == (Try.f13.params.toList ++ Rows.insertBesideSpec.plain.varTypes Try.prog).any (Try.prog.ifacesRec ·)) = true := by kernel_rfl
theorem b15 : (Rows.insertBesideRow.mapsOut == Try.prog.mapsAmong Try.f13.resultTypes.toList) = true := by kernel_rfl
theorem b16 : (Rows.insertBesideRow.loops == (Try.f13.params.toList ++ Rows.insertBesideSpec.plain.varTypes Try.prog).any (Try.prog.loopsFrom ·)) = true := by kernel_rfl
theorem b17 : (Rows.insertBesideRow.wideKeys == (Try.f13.params.toList ++ Rows.insertBesideSpec.plain.varTypes Try.prog ++ Try.f13.resultTypes.toList).any (Try.prog.wideKeysFrom ·)) = true := by kernel_rfl
theorem b18 : (Rows.insertBesideSpec.vars.all (Try.prog.varReadable ·)) = true := by kernel_rfl
theorem b19 : (Try.f13.resultTypes.all (fun t => Try.prog.readableRec t && decide (t < Try.prog.types.size))) = true := by kernel_rfl
theorem b20 : (Rows.insertBesideRow.ifacesOut == Try.f13.resultTypes.toList.any (Try.prog.ifacesRec ·)) = true := by kernel_rfl
theorem b21 : (Rows.insertBesideRow.loopsOut == Try.f13.resultTypes.toList.any (Try.prog.loopsFrom ·)) = true := by kernel_rfl
theorem b22 : (Rows.insertBesideRow.plainKeys == Try.prog.plainKeys) = true := by rw [qPlain]; rfl
theorem b23 : (Rows.insertBesideRow.shortTexts.isNone) = true := by kernel_rfl
theorem b26 : (Rows.insertBesideRow.lifted == Try.prog.liftsFinal) = true := by rw [qLifts]; rfl
theorem b27 : (Try.prog.make == some Rows.insertBesideRow.make) = true := by rw [qMake]; rfl
theorem b28 : (Rows.insertBesideRow.kinds == (if Rows.insertBesideRow.domain.isEmpty then [] else Try.f13.params.toList.map fun t => match Try.prog.underlying t with | some (.int k) => some k | _ => none)) = true := by kernel_rfl
theorem b29 : (Rows.insertBesideRow.pinned == Rows.insertBesideRow.pinnedBy) = true := by kernel_rfl
theorem b30 : (Rows.insertBesideRow.veiled == (Try.f13.params.toList ++ Rows.insertBesideSpec.plain.varTypes Try.prog ++ Try.f13.resultTypes.toList).any (Try.prog.veiledRec ·)) = true := by kernel_rfl
theorem b31 : (Rows.insertBesideRow.veiledFits Try.prog Try.f13.params.toList (Try.f13.params.toList ++ Rows.insertBesideSpec.plain.varTypes Try.prog ++ Try.f13.resultTypes.toList)) = true := by kernel_rfl
set_option maxRecDepth 4000 in
theorem a2 : joinedFacts Try.prog 13 Try.f13 Rows.insertBesideSpec Rows.insertBesideRow = true := by
  unfold joinedFacts
  refine bAnd ?_ ?_; rotate_left
  · exact b31
  refine bAnd ?_ ?_; rotate_left
  · exact b30
  refine bAnd ?_ ?_; rotate_left
  · exact b29
  refine bAnd ?_ ?_; rotate_left
  · exact b28
  refine bAnd ?_ ?_; rotate_left
  · exact b27
  refine bAnd ?_ ?_; rotate_left
  · exact b26
  refine bAnd ?_ ?_; rotate_left
  · exact qEnter
  refine bAnd ?_ ?_; rotate_left
  · exact qHeard
  refine bAnd ?_ ?_; rotate_left
  · exact b23
  refine bAnd ?_ ?_; rotate_left
  · exact b22
  refine bAnd ?_ ?_; rotate_left
  · exact b21
  refine bAnd ?_ ?_; rotate_left
  · exact b20
  refine bAnd ?_ ?_; rotate_left
  · exact b19
  refine bAnd ?_ ?_; rotate_left
  · exact b18
  refine bAnd ?_ ?_; rotate_left
  · exact b17
  refine bAnd ?_ ?_; rotate_left
  · exact b16
  refine bAnd ?_ ?_; rotate_left
  · exact b15
  refine bAnd ?_ ?_; rotate_left
  · exact b14
  refine bAnd ?_ ?_; rotate_left
  · exact b13
  refine bAnd ?_ ?_; rotate_left
  · exact b12
  refine bAnd ?_ ?_; rotate_left
  · exact b11
  refine bAnd ?_ ?_; rotate_left
  · exact b10
  refine bAnd ?_ ?_; rotate_left
  · exact b9
  refine bAnd ?_ ?_; rotate_left
  · exact qKnobs
  refine bAnd ?_ ?_; rotate_left
  · exact b7
  refine bAnd ?_ ?_; rotate_left
  · exact qStops
  refine bAnd ?_ ?_; rotate_left
  · exact b5
  refine bAnd ?_ ?_; rotate_left
  · exact b4
  refine bAnd ?_ ?_; rotate_left
  · exact b3
  refine bAnd ?_ ?_; rotate_left
  · exact qMaps
  refine bAnd ?_ ?_; rotate_left
  · exact qLaid
  exact b0
theorem a3 : Try.f13.isInstance Try.prog Rows.insertBesideRow.origin Rows.insertBesideRow.targs := of_decide_eq_true (by kernel_rfl)
theorem a4 : Try.f13.isWrapper Try.prog Rows.insertBesideRow.wrapper Rows.insertBesideRow.mainSum := by unfold Func.isWrapper; first | (rw [if_pos (by decide +kernel)]; kernel_rfl) | (rw [if_neg (by decide +kernel)]; exact ⟨rfl, rfl⟩)
end InsertBesideRow
end Go.Proofs.Ytefbgdnobnemkaa
