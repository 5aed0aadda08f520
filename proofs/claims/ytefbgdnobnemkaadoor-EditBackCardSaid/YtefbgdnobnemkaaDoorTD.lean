/-
  The program's types' table.
-/
import Derived.Test.YtefbgdnobnemkaaDoorM35
import Derived.Test.YtefbgdnobnemkaaDoorM36
import Derived.Test.YtefbgdnobnemkaaDoorProg
import Derived.KernelRfl
import Derived.Laws.StructEq
set_option linter.unusedSimpArgs false
set_option linter.unusedVariables false
set_option linter.unusedSectionVars false
namespace Go.Proofs.YtefbgdnobnemkaaDoor.AM
open Go Go.RowKit

def tab : Tab
  | 3 => some ⟨.int .i64, 1, 8, [.int .i64 0], []⟩
  | 4 => some ⟨.bool, 1, 1, [.bool false], []⟩
  | 5 => some ⟨.int .u8, 1, 1, [.int .u8 0], []⟩
  | 9 => some ⟨.str, 1, 16, [.str []], []⟩
  | 24 => some ⟨.struct, 2, 16, [.int .i64 0, .int .i64 0], [(0, 3, 1), (1, 3, 1)]⟩
  | 22 => some ⟨.slice 9, 1, 24, [.nilsl], []⟩
  | 25 => some ⟨.int .u16, 1, 2, [.int .u16 0], []⟩
  | 49 => some ⟨.struct, 5, 40, [.int .i64 0, .int .i64 0, .int .i64 0, .int .i64 0, .int .i64 0], [(0, 3, 1), (1, 24, 2), (3, 24, 2)]⟩
  | 29 => some ⟨.slice 24, 1, 24, [.nilsl], []⟩
  | 35 => some ⟨.slice 3, 1, 24, [.nilsl], []⟩
  | 66 => some ⟨.slice 5, 1, 24, [.nilsl], []⟩
  | 31 => some ⟨.struct, 3, 56, [.int .i64 0, .nilsl, .nilsl], [(0, 3, 1), (1, 22, 1), (2, 22, 1)]⟩
  | 45 => some ⟨.slice 31, 1, 24, [.nilsl], []⟩
  | 54 => some ⟨.array 3 3, 3, 24, [.int .i64 0, .int .i64 0, .int .i64 0], []⟩
  | 55 => some ⟨.slice 54, 1, 24, [.nilsl], []⟩
  | 79 => some ⟨.func, 1, 8, [.junk], []⟩
  | 81 => some ⟨.func, 1, 8, [.junk], []⟩
  | 76 => some ⟨.func, 1, 8, [.junk], []⟩
  | _ => none

theorem tab_ok : TabOk Tryd.prog tab := by
  intro t ti h
  unfold tab at h
  split at h
  case h_1 => cases h; exact .mk' (i := Tryd.t3) (by kernel_rfl) rfl rfl rfl rfl rfl rfl (by decide) (Tryd.underlying3) rfl (fun h => by cases h)
  case h_2 => cases h; exact .mk' (i := Tryd.t4) (by kernel_rfl) rfl rfl rfl rfl rfl rfl (by decide) (Tryd.underlying4) rfl (fun h => by cases h)
  case h_3 => cases h; exact .mk' (i := Tryd.t5) (by kernel_rfl) rfl rfl rfl rfl rfl rfl (by decide) (Tryd.underlying5) rfl (fun h => by cases h)
  case h_4 => cases h; exact .mk' (i := Tryd.t9) (by kernel_rfl) rfl rfl rfl rfl rfl rfl (by decide) (Tryd.underlying9) rfl (fun _ => rfl)
  case h_5 => cases h; exact .mk' (i := Tryd.t24) (by kernel_rfl) rfl rfl rfl rfl rfl rfl (by decide) (Tryd.underlying24) ⟨_, rfl, by kernel_rfl, rfl⟩ (fun h => by cases h)
  case h_6 => cases h; exact .mk' (i := Tryd.t22) (by kernel_rfl) rfl rfl rfl rfl rfl rfl (by decide) (Tryd.underlying22) rfl (fun h => by cases h)
  case h_7 => cases h; exact .mk' (i := Tryd.t25) (by kernel_rfl) rfl rfl rfl rfl rfl rfl (by decide) (Tryd.underlying25) rfl (fun h => by cases h)
  case h_8 => cases h; exact .mk' (i := Tryd.t49) (by kernel_rfl) rfl rfl rfl rfl rfl rfl (by decide) (Tryd.underlying49) ⟨_, rfl, by kernel_rfl, rfl⟩ (fun h => by cases h)
  case h_9 => cases h; exact .mk' (i := Tryd.t29) (by kernel_rfl) rfl rfl rfl rfl rfl rfl (by decide) (Tryd.underlying29) rfl (fun h => by cases h)
  case h_10 => cases h; exact .mk' (i := Tryd.t35) (by kernel_rfl) rfl rfl rfl rfl rfl rfl (by decide) (Tryd.underlying35) rfl (fun h => by cases h)
  case h_11 => cases h; exact .mk' (i := Tryd.t66) (by kernel_rfl) rfl rfl rfl rfl rfl rfl (by decide) (Tryd.underlying66) rfl (fun h => by cases h)
  case h_12 => cases h; exact .mk' (i := Tryd.t31) (by kernel_rfl) rfl rfl rfl rfl rfl rfl (by decide) (Tryd.underlying31) ⟨_, rfl, by kernel_rfl, rfl⟩ (fun h => by cases h)
  case h_13 => cases h; exact .mk' (i := Tryd.t45) (by kernel_rfl) rfl rfl rfl rfl rfl rfl (by decide) (Tryd.underlying45) rfl (fun h => by cases h)
  case h_14 => cases h; exact .mk' (i := Tryd.t54) (by kernel_rfl) rfl rfl rfl rfl rfl rfl (by decide) (Tryd.underlying54) rfl (fun h => by cases h)
  case h_15 => cases h; exact .mk' (i := Tryd.t55) (by kernel_rfl) rfl rfl rfl rfl rfl rfl (by decide) (Tryd.underlying55) rfl (fun h => by cases h)
  case h_16 => cases h; exact .mk' (i := Tryd.t79) (by kernel_rfl) rfl rfl rfl rfl rfl rfl (by decide) (Tryd.underlying79) ⟨_, _, _, rfl⟩ (fun h => by cases h)
  case h_17 => cases h; exact .mk' (i := Tryd.t81) (by kernel_rfl) rfl rfl rfl rfl rfl rfl (by decide) (Tryd.underlying81) ⟨_, _, _, rfl⟩ (fun h => by cases h)
  case h_18 => cases h; exact .mk' (i := Tryd.t76) (by kernel_rfl) rfl rfl rfl rfl rfl rfl (by decide) (Tryd.underlying76) ⟨_, _, _, rfl⟩ (fun h => by cases h)
  case h_19 => cases h

def eq2 : TypeId → Bool
  | 24 => true
  | _ => false

theorem eq_int {d : Nat} {a b : Int} {w : World} : (Op.equalIn (d + 1) 3 (.int .i64 a) (.int .i64 b)).run Tryd.prog w = .ok (decide (a = b)) w := by
  simp [Op.equalIn, run_underlying Tryd.underlying3]
  rfl

theorem eq2_ok : Eq2Ok Tryd.prog eq2 := by
  intro t ht
  unfold eq2 at ht
  split at ht
  case h_2 => cases ht
  case h_1 =>
    refine ⟨fun op x y u v w => ?_, fun a b c d w => ?_⟩
    · have h : Tryd.prog.eqGuardType Tryd.prog.depth 24 = false := by kernel_rfl
      unfold eqGuard
      cases op <;> simp [h]
    · have hf : Tryd.prog.fieldsOf 24 = #[{ name := "Line", type := 3, offset := 0, embedded := false, tag := "", pkgPath := "", byteOffset := 0 }, { name := "Col", type := 3, offset := 1, embedded := false, tag := "", pkgPath := "", byteOffset := 8 }] := by kernel_rfl
      have hp : Tryd.prog.stoodInHeld 24 = false := by kernel_rfl
      unfold Op.equal Op.maxDepth
      rw [run_equalIn_struct (P := Tryd.prog) w _ 24 _ _ (by rw [hf]; exact Tryd.underlying24) hp, hf]
      simp [Op.eqFields, part, Tryd.isAgg3, eq_int]
      by_cases h1 : a = c <;> by_cases h2 : b = d <;> simp [h1, h2]

theorem tabs : Tabs Tryd.prog eq2 tab := ⟨tab_ok, eq2_ok, by kernel_rfl⟩
abbrev tab2 : Tab := tab
theorem tab2_ok : TabOk Tryd.prog tab2 := tab_ok
theorem tabs2 : Tabs Tryd.prog eq2 tab2 := tabs

end Go.Proofs.YtefbgdnobnemkaaDoor.AM
