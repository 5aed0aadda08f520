/-
  The program's types' table, with functions and rows of rows.
-/
import Derived.Test.YtefbgdnobnemkaaM35
import Derived.Test.YtefbgdnobnemkaaG1
set_option linter.unusedSimpArgs false
set_option linter.unusedVariables false
set_option linter.unusedSectionVars false
namespace Go.Proofs.Ytefbgdnobnemkaa.AM
open Go Go.RowKit

def tab3 : Tab
  | 146 => some ⟨.slice 29, 1, 24, [.nilsl], []⟩
  | 91 => some ⟨.func, 1, 8, [.junk], []⟩
  | 138 => some ⟨.func, 1, 8, [.junk], []⟩
  | 98 => some ⟨.func, 1, 8, [.junk], []⟩
  | 125 => some ⟨.func, 1, 8, [.junk], []⟩
  | 89 => some ⟨.func, 1, 8, [.junk], []⟩
  | 39 => some ⟨.func, 1, 8, [.junk], []⟩
  | _ => none

def tab2 (t : TypeId) : Option TI :=
  match tab t with
  | some x => some x
  | none => tab3 t

theorem tab3_ok : TabOk Try.prog tab3 := by
  intro t ti h
  unfold tab3 at h
  split at h
  case h_1 => cases h; exact .mk' (i := Try.t146) (by kernel_rfl) rfl rfl rfl rfl rfl rfl (by decide) (Try.underlying146) rfl (fun h => by cases h)
  case h_2 => cases h; exact .mk' (i := Try.t91) (by kernel_rfl) rfl rfl rfl rfl rfl rfl (by decide) (Try.underlying91) ⟨_, _, _, rfl⟩ (fun h => by cases h)
  case h_3 => cases h; exact .mk' (i := Try.t138) (by kernel_rfl) rfl rfl rfl rfl rfl rfl (by decide) (Try.underlying138) ⟨_, _, _, rfl⟩ (fun h => by cases h)
  case h_4 => cases h; exact .mk' (i := Try.t98) (by kernel_rfl) rfl rfl rfl rfl rfl rfl (by decide) (Try.underlying98) ⟨_, _, _, rfl⟩ (fun h => by cases h)
  case h_5 => cases h; exact .mk' (i := Try.t125) (by kernel_rfl) rfl rfl rfl rfl rfl rfl (by decide) (Try.underlying125) ⟨_, _, _, rfl⟩ (fun h => by cases h)
  case h_6 => cases h; exact .mk' (i := Try.t89) (by kernel_rfl) rfl rfl rfl rfl rfl rfl (by decide) (Try.underlying89) ⟨_, _, _, rfl⟩ (fun h => by cases h)
  case h_7 => cases h; exact .mk' (i := Try.t39) (by kernel_rfl) rfl rfl rfl rfl rfl rfl (by decide) (Try.underlying39) ⟨_, _, _, rfl⟩ (fun h => by cases h)
  case h_8 => cases h

theorem tab2_ok : TabOk Try.prog tab2 := by
  intro t ti h
  unfold tab2 at h
  cases ht : tab t with
  | some x => rw [ht] at h; cases h; exact tab_ok t _ ht
  | none => rw [ht] at h; exact tab3_ok t ti h

theorem tabs2 : Tabs Try.prog eq2 tab2 := ⟨tab2_ok, eq2_ok, by kernel_rfl⟩

end Go.Proofs.Ytefbgdnobnemkaa.AM
