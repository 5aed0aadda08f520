/-
  The program's types' table.
-/
import Derived.Test.YtefbgdnobnemkaaM26
import Derived.Test.YtefbgdnobnemkaaProg
import Derived.KernelRfl
import Derived.Laws.StructEq
namespace Go.Proofs.Ytefbgdnobnemkaa.AM
open Go Go.RowKit

def tab : Tab
  | 3 => some ⟨.int .i64, 1, 8, [.int .i64 0], []⟩
  | 4 => some ⟨.bool, 1, 1, [.bool false], []⟩
  | 5 => some ⟨.int .u8, 1, 1, [.int .u8 0], []⟩
  | 9 => some ⟨.str, 1, 16, [.str []], []⟩
  | 23 => some ⟨.struct, 2, 16, [.int .i64 0, .int .i64 0], [(0, 3, 1), (1, 3, 1)]⟩
  | 29 => some ⟨.slice 9, 1, 24, [.nilsl], []⟩
  | 30 => some ⟨.int .u16, 1, 2, [.int .u16 0], []⟩
  | 35 => some ⟨.struct, 5, 40, [.int .i64 0, .int .i64 0, .int .i64 0, .int .i64 0, .int .i64 0], [(0, 3, 1), (1, 23, 2), (3, 23, 2)]⟩
  | 43 => some ⟨.slice 23, 1, 24, [.nilsl], []⟩
  | 44 => some ⟨.slice 3, 1, 24, [.nilsl], []⟩
  | 45 => some ⟨.slice 5, 1, 24, [.nilsl], []⟩
  | 47 => some ⟨.struct, 3, 56, [.int .i64 0, .nilsl, .nilsl], [(0, 3, 1), (1, 29, 1), (2, 29, 1)]⟩
  | 60 => some ⟨.slice 47, 1, 24, [.nilsl], []⟩
  | 64 => some ⟨.array 3 3, 3, 24, [.int .i64 0, .int .i64 0, .int .i64 0], []⟩
  | 65 => some ⟨.slice 64, 1, 24, [.nilsl], []⟩
  | 71 => some ⟨.struct, 2, 32, [.int .i64 0, .nilsl], [(0, 3, 1), (1, 29, 1)]⟩
  | 81 => some ⟨.int .i8, 1, 1, [.int .i8 0], []⟩
  | _ => none

def eq2 : TypeId → Bool
  | 23 => true
  | _ => false

theorem tab_ok : TabOk Try.prog tab := by
  intro t ti h
  unfold tab at h
  split at h
  case h_1 => cases h; exact .mk' (i := Try.t3) (by kernel_rfl) rfl rfl rfl rfl rfl rfl (by decide) (Try.underlying3) rfl (fun h => by cases h)
  case h_2 => cases h; exact .mk' (i := Try.t4) (by kernel_rfl) rfl rfl rfl rfl rfl rfl (by decide) (Try.underlying4) rfl (fun h => by cases h)
  case h_3 => cases h; exact .mk' (i := Try.t5) (by kernel_rfl) rfl rfl rfl rfl rfl rfl (by decide) (Try.underlying5) rfl (fun h => by cases h)
  case h_4 => cases h; exact .mk' (i := Try.t9) (by kernel_rfl) rfl rfl rfl rfl rfl rfl (by decide) (Try.underlying9) rfl (fun _ => rfl)
  case h_5 => cases h; exact .mk' (i := Try.t23) (by kernel_rfl) rfl rfl rfl rfl rfl rfl (by decide) (Try.underlying23) ⟨_, rfl, by kernel_rfl, rfl⟩ (fun h => by cases h)
  case h_6 => cases h; exact .mk' (i := Try.t29) (by kernel_rfl) rfl rfl rfl rfl rfl rfl (by decide) (Try.underlying29) rfl (fun h => by cases h)
  case h_7 => cases h; exact .mk' (i := Try.t30) (by kernel_rfl) rfl rfl rfl rfl rfl rfl (by decide) (Try.underlying30) rfl (fun h => by cases h)
  case h_8 => cases h; exact .mk' (i := Try.t35) (by kernel_rfl) rfl rfl rfl rfl rfl rfl (by decide) (Try.underlying35) ⟨_, rfl, by kernel_rfl, rfl⟩ (fun h => by cases h)
  case h_9 => cases h; exact .mk' (i := Try.t43) (by kernel_rfl) rfl rfl rfl rfl rfl rfl (by decide) (Try.underlying43) rfl (fun h => by cases h)
  case h_10 => cases h; exact .mk' (i := Try.t44) (by kernel_rfl) rfl rfl rfl rfl rfl rfl (by decide) (Try.underlying44) rfl (fun h => by cases h)
  case h_11 => cases h; exact .mk' (i := Try.t45) (by kernel_rfl) rfl rfl rfl rfl rfl rfl (by decide) (Try.underlying45) rfl (fun h => by cases h)
  case h_12 => cases h; exact .mk' (i := Try.t47) (by kernel_rfl) rfl rfl rfl rfl rfl rfl (by decide) (Try.underlying47) ⟨_, rfl, by kernel_rfl, rfl⟩ (fun h => by cases h)
  case h_13 => cases h; exact .mk' (i := Try.t60) (by kernel_rfl) rfl rfl rfl rfl rfl rfl (by decide) (Try.underlying60) rfl (fun h => by cases h)
  case h_14 => cases h; exact .mk' (i := Try.t64) (by kernel_rfl) rfl rfl rfl rfl rfl rfl (by decide) (Try.underlying64) rfl (fun h => by cases h)
  case h_15 => cases h; exact .mk' (i := Try.t65) (by kernel_rfl) rfl rfl rfl rfl rfl rfl (by decide) (Try.underlying65) rfl (fun h => by cases h)
  case h_16 => cases h; exact .mk' (i := Try.t71) (by kernel_rfl) rfl rfl rfl rfl rfl rfl (by decide) (Try.underlying71) ⟨_, rfl, by kernel_rfl, rfl⟩ (fun h => by cases h)
  case h_17 => cases h; exact .mk' (i := Try.t81) (by kernel_rfl) rfl rfl rfl rfl rfl rfl (by decide) (Try.underlying81) rfl (fun h => by cases h)
  case h_18 => cases h

theorem eq_int {d : Nat} {a b : Int} {w : World} : (Op.equalIn (d + 1) 3 (.int .i64 a) (.int .i64 b)).run Try.prog w = .ok (decide (a = b)) w := by
  simp [Op.equalIn, run_underlying Try.underlying3]
  rfl

theorem eq2_ok : Eq2Ok Try.prog eq2 := by
  intro t ht
  unfold eq2 at ht
  split at ht
  case h_2 => cases ht
  case h_1 =>
    refine ⟨fun op x y u v w => ?_, fun a b c d w => ?_⟩
    · have h : Try.prog.eqGuardType Try.prog.depth 23 = false := by kernel_rfl
      unfold eqGuard
      cases op <;> simp [h]
    · have hf : Try.prog.fieldsOf 23 = #[{ name := "Line", type := 3, offset := 0, embedded := false, tag := "", pkgPath := "", byteOffset := 0 }, { name := "Col", type := 3, offset := 1, embedded := false, tag := "", pkgPath := "", byteOffset := 8 }] := by kernel_rfl
      have hp : Try.prog.stoodInHeld 23 = false := by kernel_rfl
      unfold Op.equal Op.maxDepth
      rw [run_equalIn_struct (P := Try.prog) w _ 23 _ _ (by rw [hf]; exact Try.underlying23) hp, hf]
      simp [Op.eqFields, part, Try.isAgg3, eq_int]
      by_cases h1 : a = c <;> by_cases h2 : b = d <;> simp [h1, h2]

theorem tabs : Tabs Try.prog eq2 tab := ⟨tab_ok, eq2_ok, by kernel_rfl⟩

end Go.Proofs.Ytefbgdnobnemkaa.AM
