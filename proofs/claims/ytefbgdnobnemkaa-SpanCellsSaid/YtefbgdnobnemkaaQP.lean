/-
  Closed facts of the program, that all rows ask.
-/
import Derived.Test.YtefbgdnobnemkaaR3
namespace Go.Proofs.Ytefbgdnobnemkaa
open Go Go.RowKit Go.ChangeShapes Go.WideShapes Go.ChangeAt AM

theorem bAnd {a b : Bool} (h1 : a = true) (h2 : b = true) : (a && b) = true := by rw [h1, h2]; rfl
theorem qLaid : (laidOutB Try.prog) = true := by kernel_rfl
theorem qMaps : (mapsRowed Try.prog) = true := by kernel_rfl
theorem qStops : (Try.prog.stops == []) = true := by kernel_rfl
theorem qKnobs : (Try.prog.stopKnobs == []) = true := by kernel_rfl
theorem qHeard : (Try.prog.stopsHeard) = true := by kernel_rfl
theorem qEnter : (Try.prog.mayEnter) = true := by kernel_rfl
theorem qPlain : Try.prog.plainKeys = Rows.opsCutRow.plainKeys := by kernel_rfl
theorem qLifts : Try.prog.liftsFinal = Rows.opsCutRow.lifted := by kernel_rfl
theorem qMake : Try.prog.make = some Rows.opsCutRow.make := by
  have h : (Try.prog.make == some Rows.opsCutRow.make) = true := by kernel_rfl
  simpa using h
end Go.Proofs.Ytefbgdnobnemkaa
