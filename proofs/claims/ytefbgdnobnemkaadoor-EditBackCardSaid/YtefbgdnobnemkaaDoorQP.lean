/-
  Closed facts of the program, that all rows ask.
-/
import Derived.Test.YtefbgdnobnemkaaDoorR3
import Derived.LaidMore
import Derived.Lay
namespace Go.Proofs.YtefbgdnobnemkaaDoor
open Go Go.RowKit Go.ChangeShapes Go.WideShapes Go.ChangeAt AM

theorem bAnd {a b : Bool} (h1 : a = true) (h2 : b = true) : (a && b) = true := by rw [h1, h2]; rfl
theorem qLaid : (laidOutB Tryd.prog) = true := by kernel_rfl
theorem qMaps : (mapsRowed Tryd.prog) = true := by kernel_rfl
theorem qStops : (Tryd.prog.stops == []) = true := by kernel_rfl
theorem qKnobs : (Tryd.prog.stopKnobs == []) = true := by kernel_rfl
theorem qHeard : (Tryd.prog.stopsHeard) = true := by kernel_rfl
theorem qEnter : (Tryd.prog.mayEnter) = true := by kernel_rfl
theorem qPlain : Tryd.prog.plainKeys = Rows.editJoinsRow.plainKeys := by kernel_rfl
theorem qLifts : Tryd.prog.liftsFinal = Rows.editJoinsRow.lifted := by kernel_rfl
theorem qMake : Tryd.prog.make = some Rows.editJoinsRow.make := by
  have h : (Tryd.prog.make == some Rows.editJoinsRow.make) = true := by kernel_rfl
  simpa using h
/-- What the rows list. -/
def laid : List (String × DataW Unit) := [("unicode/utf8.acceptRanges", Rows.laid_unicode_utf8_acceptRanges), ("unicode/utf8.first", Rows.laid_unicode_utf8_first)]
theorem own : ownKnob Tryd.prog.godebug = none := by kernel_rfl
end Go.Proofs.YtefbgdnobnemkaaDoor
