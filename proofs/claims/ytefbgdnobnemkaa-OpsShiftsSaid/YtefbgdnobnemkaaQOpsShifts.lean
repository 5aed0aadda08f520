/-
  Closed facts of a row: OpsShifts.
-/
import Derived.Test.YtefbgdnobnemkaaR3
namespace Go.Proofs.Ytefbgdnobnemkaa
open Go Go.RowKit Go.ChangeShapes Go.WideShapes Go.ChangeAt AM

namespace OpsShiftsRow
theorem a1 : Try.prog.funcNamed "foolscap/foolscaplaw28.OpsShifts" = some 15 := by kernel_rfl
theorem a2 : joinedFacts Try.prog 15 Try.f15 Rows.opsShiftsSpec Rows.opsShiftsRow = true := by kernel_rfl
theorem a3 : Try.f15.isInstance Try.prog Rows.opsShiftsRow.origin Rows.opsShiftsRow.targs := of_decide_eq_true (by kernel_rfl)
theorem a4 : Try.f15.isWrapper Try.prog Rows.opsShiftsRow.wrapper Rows.opsShiftsRow.mainSum := by unfold Func.isWrapper; first | (rw [if_pos (by decide +kernel)]; kernel_rfl) | (rw [if_neg (by decide +kernel)]; exact ⟨rfl, rfl⟩)
end OpsShiftsRow
end Go.Proofs.Ytefbgdnobnemkaa
