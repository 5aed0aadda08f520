/-
  Places and ranges: what the functions compute; the laws of layer 6.
-/
import Derived.Test.YtefbgdnobnemkaaK3
import Derived.Test.YtefbgdnobnemkaaProg
import Derived.KernelRfl
import Derived.Laws.StructEq
set_option linter.unusedSimpArgs false
set_option linter.unusedVariables false
set_option linter.unusedSectionVars false
namespace Go.Proofs.Ytefbgdnobnemkaa.AM
open Go Go.RowKit

def tab : Tab
  | 3 => some ⟨.int .i64, 1, 8, [.int .i64 0], []⟩
  | 4 => some ⟨.bool, 1, 1, [.bool false], []⟩
  | 5 => some ⟨.int .u8, 1, 1, [.int .u8 0], []⟩
  | 9 => some ⟨.str, 1, 16, [.str []], []⟩
  | 23 => some ⟨.struct, 2, 16, [.int .i64 0, .int .i64 0], [(0, 3, 1), (1, 3, 1)]⟩
  | 29 => some ⟨.slice 9, 1, 24, [.nilsl], []⟩
  | 30 => some ⟨.int .u16, 1, 2, [.int .u16 0], []⟩
  | 35 => some ⟨.struct, 5, 40, [.int .i64 0, .int .i64 0, .int .i64 0, .int .i64 0, .int .i64 0], [(0, 3, 1), (1, 23, 2), (3, 23, 2)]⟩
  | 43 => some ⟨.slice 23, 1, 24, [.nilsl], []⟩
  | 44 => some ⟨.slice 3, 1, 24, [.nilsl], []⟩
  | 45 => some ⟨.slice 5, 1, 24, [.nilsl], []⟩
  | 47 => some ⟨.struct, 3, 56, [.int .i64 0, .nilsl, .nilsl], [(0, 3, 1), (1, 29, 1), (2, 29, 1)]⟩
  | 60 => some ⟨.slice 47, 1, 24, [.nilsl], []⟩
  | 64 => some ⟨.array 3 3, 3, 24, [.int .i64 0, .int .i64 0, .int .i64 0], []⟩
  | 65 => some ⟨.slice 64, 1, 24, [.nilsl], []⟩
  | 71 => some ⟨.struct, 2, 32, [.int .i64 0, .nilsl], [(0, 3, 1), (1, 29, 1)]⟩
  | 81 => some ⟨.int .i8, 1, 1, [.int .i8 0], []⟩
  | _ => none

def eq2 : TypeId → Bool
  | 23 => true
  | _ => false

theorem tab_ok : TabOk Try.prog tab := by
  intro t ti h
  unfold tab at h
  split at h
  case h_1 => cases h; exact .mk' (i := Try.t3) (by kernel_rfl) rfl rfl rfl rfl rfl rfl (by decide) (Try.underlying3) rfl (fun h => by cases h)
  case h_2 => cases h; exact .mk' (i := Try.t4) (by kernel_rfl) rfl rfl rfl rfl rfl rfl (by decide) (Try.underlying4) rfl (fun h => by cases h)
  case h_3 => cases h; exact .mk' (i := Try.t5) (by kernel_rfl) rfl rfl rfl rfl rfl rfl (by decide) (Try.underlying5) rfl (fun h => by cases h)
  case h_4 => cases h; exact .mk' (i := Try.t9) (by kernel_rfl) rfl rfl rfl rfl rfl rfl (by decide) (Try.underlying9) rfl (fun _ => rfl)
  case h_5 => cases h; exact .mk' (i := Try.t23) (by kernel_rfl) rfl rfl rfl rfl rfl rfl (by decide) (Try.underlying23) ⟨_, rfl, by kernel_rfl, rfl⟩ (fun h => by cases h)
  case h_6 => cases h; exact .mk' (i := Try.t29) (by kernel_rfl) rfl rfl rfl rfl rfl rfl (by decide) (Try.underlying29) rfl (fun h => by cases h)
  case h_7 => cases h; exact .mk' (i := Try.t30) (by kernel_rfl) rfl rfl rfl rfl rfl rfl (by decide) (Try.underlying30) rfl (fun h => by cases h)
  case h_8 => cases h; exact .mk' (i := Try.t35) (by kernel_rfl) rfl rfl rfl rfl rfl rfl (by decide) (Try.underlying35) ⟨_, rfl, by kernel_rfl, rfl⟩ (fun h => by cases h)
  case h_9 => cases h; exact .mk' (i := Try.t43) (by kernel_rfl) rfl rfl rfl rfl rfl rfl (by decide) (Try.underlying43) rfl (fun h => by cases h)
  case h_10 => cases h; exact .mk' (i := Try.t44) (by kernel_rfl) rfl rfl rfl rfl rfl rfl (by decide) (Try.underlying44) rfl (fun h => by cases h)
  case h_11 => cases h; exact .mk' (i := Try.t45) (by kernel_rfl) rfl rfl rfl rfl rfl rfl (by decide) (Try.underlying45) rfl (fun h => by cases h)
  case h_12 => cases h; exact .mk' (i := Try.t47) (by kernel_rfl) rfl rfl rfl rfl rfl rfl (by decide) (Try.underlying47) ⟨_, rfl, by kernel_rfl, rfl⟩ (fun h => by cases h)
  case h_13 => cases h; exact .mk' (i := Try.t60) (by kernel_rfl) rfl rfl rfl rfl rfl rfl (by decide) (Try.underlying60) rfl (fun h => by cases h)
  case h_14 => cases h; exact .mk' (i := Try.t64) (by kernel_rfl) rfl rfl rfl rfl rfl rfl (by decide) (Try.underlying64) rfl (fun h => by cases h)
  case h_15 => cases h; exact .mk' (i := Try.t65) (by kernel_rfl) rfl rfl rfl rfl rfl rfl (by decide) (Try.underlying65) rfl (fun h => by cases h)
  case h_16 => cases h; exact .mk' (i := Try.t71) (by kernel_rfl) rfl rfl rfl rfl rfl rfl (by decide) (Try.underlying71) ⟨_, rfl, by kernel_rfl, rfl⟩ (fun h => by cases h)
  case h_17 => cases h; exact .mk' (i := Try.t81) (by kernel_rfl) rfl rfl rfl rfl rfl rfl (by decide) (Try.underlying81) rfl (fun h => by cases h)
  case h_18 => cases h

theorem eq_int {d : Nat} {a b : Int} {w : World} : (Op.equalIn (d + 1) 3 (.int .i64 a) (.int .i64 b)).run Try.prog w = .ok (decide (a = b)) w := by
  simp [Op.equalIn, run_underlying Try.underlying3]
  rfl

theorem eq2_ok : Eq2Ok Try.prog eq2 := by
  intro t ht
  unfold eq2 at ht
  split at ht
  case h_2 => cases ht
  case h_1 =>
    refine ⟨fun op x y u v w => ?_, fun a b c d w => ?_⟩
    · have h : Try.prog.eqGuardType Try.prog.depth 23 = false := by kernel_rfl
      unfold eqGuard
      cases op <;> simp [h]
    · have hf : Try.prog.fieldsOf 23 = #[{ name := "Line", type := 3, offset := 0, embedded := false, tag := "", pkgPath := "", byteOffset := 0 }, { name := "Col", type := 3, offset := 1, embedded := false, tag := "", pkgPath := "", byteOffset := 8 }] := by kernel_rfl
      have hp : Try.prog.stoodInHeld 23 = false := by kernel_rfl
      unfold Op.equal Op.maxDepth
      rw [run_equalIn_struct (P := Try.prog) w _ 23 _ _ (by rw [hf]; exact Try.underlying23) hp, hf]
      simp [Op.eqFields, part, Try.isAgg3, eq_int]
      by_cases h1 : a = c <;> by_cases h2 : b = d <;> simp [h1, h2]

theorem tabs : Tabs Try.prog eq2 tab := ⟨tab_ok, eq2_ok, by kernel_rfl⟩

end Go.Proofs.Ytefbgdnobnemkaa.AM

namespace Go.Proofs.Ytefbgdnobnemkaa.AM
open Go Go.RowKit

def ltP (a b c d : Int) : Bool := decide (a < c ∨ (a = c ∧ b < d))

set_option maxRecDepth 10000 in
set_option maxHeartbeats 8000000 in
theorem p25 (a b c d : Int) : Pure Try.prog 25 [.agg [.int .i64 a, .int .i64 b], .agg [.int .i64 c, .int .i64 d]] (.bool (ltP a b c d)) := by
  refine Pure.ofT tab_ok Try.func25 rfl rfl [.tmp 4] rfl (by decide) rfl ⟨24, 5, (.node (.node (.node (.node (.node (.leaf (.agg [.int .i64 a, .int .i64 b])) (J 0)) (J 1)) (J 2)) (J 3)) (.node (.node (.node (.node (.leaf (.agg [.int .i64 c, .int .i64 d])) (J 0)) (J 1)) (J 2)) (J 3))), (OO 5)⟩ (by kernel_rfl) (by kernel_rfl) ?_
  repeat' (first
    | refine allProp_T ?_
    | exact trivial
    | (refine URun.id ?_; first
        | refine URun.nil ?_
        | refine URun.many tabs rfl rfl (by kernel_rfl) ?_ ?_
        | refine URun.same tabs rfl rfl rfl ?_
        | refine URun.same2 tabs rfl rfl rfl ?_
        | refine URun.split tabs rfl rfl rfl rfl (fun h => ?_) (fun h => ?_))
    | (refine TRun.id ?_; first
        | refine TRun.nil ?_
        | refine TRun.many rfl rfl (by kernel_rfl) ?_ ?_
        | refine TRun.same rfl rfl rfl ?_
        | refine TRun.same2 rfl rfl rfl ?_
        | refine TRun.split rfl rfl rfl rfl (fun h => ?_) (fun h => ?_))
    | (refine HoldsT.id ?_; first
        | refine HoldsT.seq ?_
        | refine HoldsT.regionU ?_
        | refine HoldsT.drawn tabs ?_
        | refine HoldsT.yes rfl ?_
        | refine HoldsT.no rfl ?_
        | refine HoldsT.cond rfl (fun h => ?_) (fun h => ?_)
        | refine HoldsT.block ?_
        | refine HoldsT.ret ?_
        | refine HoldsT.skip ?_
        | refine HoldsT.exit ?_)
    | (refine okTr_intro ?_; kernel_rfl)
    | exact absurd rfl h
    | refine allProp_C ?_ ?_
    | refine And.intro ?_ ?_
    | omega
    | (show _ < List.length _; omega)
    | exact rowlen_intro rfl
    | exact lenEq_intro rfl
    | exact Nat.le_of_ble_eq_true rfl
    | (simp only [AV.rowlenD, AV.rowlen, AV.ncells, mulSz, toN, Option.map_some, Option.map_none, cutL, List.length_take, List.length_drop, List.length_append, List.length_cons, List.length_nil, List.length_set, Option.some.injEq, Int.reduceToNat] <;> omega))
  all_goals refine FinC.te (y := .bool _) rfl rfl trivial (congrArg AV.bool ?_)
  all_goals (unfold ltP; symm; first | exact decide_eq_true (by omega) | exact decide_eq_false (by omega))

set_option maxRecDepth 10000 in
set_option maxHeartbeats 8000000 in
theorem p26 (a b c d : Int) : Pure Try.prog 26 [.agg [.int .i64 a, .int .i64 b], .agg [.int .i64 c, .int .i64 d]] (.bool (ltP a b c d)) := by
  refine Pure.ofT tab_ok Try.func26 rfl rfl [.tmp 4] rfl (by decide) rfl ⟨24, 5, (.node (.node (.node (.node (.node (.leaf (.agg [.int .i64 a, .int .i64 b])) (J 0)) (J 1)) (J 2)) (J 3)) (.node (.node (.node (.node (.leaf (.agg [.int .i64 c, .int .i64 d])) (J 0)) (J 1)) (J 2)) (J 3))), (OO 5)⟩ (by kernel_rfl) (by kernel_rfl) ?_
  repeat' (first
    | refine allProp_T ?_
    | exact trivial
    | (refine URun.id ?_; first
        | refine URun.nil ?_
        | refine URun.many tabs rfl rfl (by kernel_rfl) ?_ ?_
        | refine URun.same tabs rfl rfl rfl ?_
        | refine URun.same2 tabs rfl rfl rfl ?_
        | refine URun.split tabs rfl rfl rfl rfl (fun h => ?_) (fun h => ?_))
    | (refine TRun.id ?_; first
        | refine TRun.nil ?_
        | refine TRun.many rfl rfl (by kernel_rfl) ?_ ?_
        | refine TRun.same rfl rfl rfl ?_
        | refine TRun.same2 rfl rfl rfl ?_
        | refine TRun.split rfl rfl rfl rfl (fun h => ?_) (fun h => ?_))
    | (refine HoldsT.id ?_; first
        | refine HoldsT.seq ?_
        | refine HoldsT.regionU ?_
        | refine HoldsT.drawn tabs ?_
        | refine HoldsT.yes rfl ?_
        | refine HoldsT.no rfl ?_
        | refine HoldsT.cond rfl (fun h => ?_) (fun h => ?_)
        | refine HoldsT.block ?_
        | refine HoldsT.ret ?_
        | refine HoldsT.skip ?_
        | refine HoldsT.exit ?_)
    | (refine okTr_intro ?_; kernel_rfl)
    | exact absurd rfl h
    | refine allProp_C ?_ ?_
    | refine And.intro ?_ ?_
    | omega
    | (show _ < List.length _; omega)
    | exact rowlen_intro rfl
    | exact lenEq_intro rfl
    | exact Nat.le_of_ble_eq_true rfl
    | (simp only [AV.rowlenD, AV.rowlen, AV.ncells, mulSz, toN, Option.map_some, Option.map_none, cutL, List.length_take, List.length_drop, List.length_append, List.length_cons, List.length_nil, List.length_set, Option.some.injEq, Int.reduceToNat] <;> omega))
  all_goals refine FinC.te (y := .bool _) rfl rfl trivial (congrArg AV.bool ?_)
  all_goals (unfold ltP; symm; first | exact decide_eq_true (by omega) | exact decide_eq_false (by omega))

set_option maxRecDepth 10000 in
set_option maxHeartbeats 8000000 in
theorem p23 (a b c d : Int) : Pure Try.prog 23 [.agg [.int .i64 a, .int .i64 b], .agg [.int .i64 c, .int .i64 d]] (.tup [.agg [.int .i64 (cond (ltP c d a b) c a), .int .i64 (cond (ltP c d a b) d b)], .agg [.int .i64 (cond (ltP c d a b) a c), .int .i64 (cond (ltP c d a b) b d)]]) := by
  refine Pure.ofT tab_ok Try.func23 rfl rfl [.cell 4 23, .cell 5 23] rfl (by decide) rfl ⟨13, 4, (.node (.node (.node (.node (.leaf (.agg [.int .i64 a, .int .i64 b])) (J 0)) (J 1)) (J 2)) (.node (.node (.node (.leaf (.agg [.int .i64 c, .int .i64 d])) (J 0)) (J 1)) (J 2))), (OO 4)⟩ (by kernel_rfl) (by kernel_rfl) ?_
  repeat' (first
    | refine allProp_T ?_
    | exact trivial
    | (refine URun.id ?_; first
        | refine URun.nil ?_
        | refine URun.many tabs rfl rfl (by kernel_rfl) ?_ ?_
        | (refine URun.toCall 25 rfl ?_; first
          | refine URun.callB tabs rfl rfl rfl rfl (p25 _ _ _ _) rfl rfl ?_ rfl rfl (fun h => ?_) (fun h => ?_))
        | refine URun.same tabs rfl rfl rfl ?_
        | refine URun.same2 tabs rfl rfl rfl ?_
        | refine URun.split tabs rfl rfl rfl rfl (fun h => ?_) (fun h => ?_))
    | (refine TRun.id ?_; first
        | refine TRun.nil ?_
        | refine TRun.many rfl rfl (by kernel_rfl) ?_ ?_
        | (refine TRun.toCall 25 rfl ?_; first
          | refine TRun.callB rfl rfl rfl rfl (p25 _ _ _ _) rfl rfl ?_ rfl rfl (fun h => ?_) (fun h => ?_))
        | refine TRun.same rfl rfl rfl ?_
        | refine TRun.same2 rfl rfl rfl ?_
        | refine TRun.split rfl rfl rfl rfl (fun h => ?_) (fun h => ?_))
    | (refine HoldsT.id ?_; first
        | refine HoldsT.seq ?_
        | refine HoldsT.regionU ?_
        | refine HoldsT.drawn tabs ?_
        | refine HoldsT.yes rfl ?_
        | refine HoldsT.no rfl ?_
        | refine HoldsT.cond rfl (fun h => ?_) (fun h => ?_)
        | refine HoldsT.block ?_
        | refine HoldsT.ret ?_
        | refine HoldsT.skip ?_
        | refine HoldsT.exit ?_)
    | (refine okTr_intro ?_; kernel_rfl)
    | exact absurd rfl h
    | refine allProp_C ?_ ?_
    | refine And.intro ?_ ?_
    | omega
    | (show _ < List.length _; omega)
    | exact rowlen_intro rfl
    | exact lenEq_intro rfl
    | exact Nat.le_of_ble_eq_true rfl
    | (simp only [AV.rowlenD, AV.rowlen, AV.ncells, mulSz, toN, Option.map_some, Option.map_none, cutL, List.length_take, List.length_drop, List.length_append, List.length_cons, List.length_nil, List.length_set, Option.some.injEq, Int.reduceToNat] <;> omega))
  all_goals refine FinC.te (y := .tup [.agg [.int .i64 _, .int .i64 _], .agg [.int .i64 _, .int .i64 _]]) rfl rfl ⟨⟨trivial, trivial, trivial⟩, ⟨trivial, trivial, trivial⟩, trivial⟩ (by rw [h]; rfl)

set_option maxRecDepth 10000 in
set_option maxHeartbeats 8000000 in
theorem p24 (a b c d : Int) : Pure Try.prog 24 [.agg [.int .i64 a, .int .i64 b], .agg [.int .i64 c, .int .i64 d]] (.tup [.agg [.int .i64 (cond (ltP c d a b) c a), .int .i64 (cond (ltP c d a b) d b)], .agg [.int .i64 (cond (ltP c d a b) a c), .int .i64 (cond (ltP c d a b) b d)]]) := by
  refine Pure.ofT tab_ok Try.func24 rfl rfl [.cell 4 23, .cell 5 23] rfl (by decide) rfl ⟨13, 4, (.node (.node (.node (.node (.leaf (.agg [.int .i64 a, .int .i64 b])) (J 0)) (J 1)) (J 2)) (.node (.node (.node (.leaf (.agg [.int .i64 c, .int .i64 d])) (J 0)) (J 1)) (J 2))), (OO 4)⟩ (by kernel_rfl) (by kernel_rfl) ?_
  repeat' (first
    | refine allProp_T ?_
    | exact trivial
    | (refine URun.id ?_; first
        | refine URun.nil ?_
        | refine URun.many tabs rfl rfl (by kernel_rfl) ?_ ?_
        | (refine URun.toCall 26 rfl ?_; first
          | refine URun.callB tabs rfl rfl rfl rfl (p26 _ _ _ _) rfl rfl ?_ rfl rfl (fun h => ?_) (fun h => ?_))
        | refine URun.same tabs rfl rfl rfl ?_
        | refine URun.same2 tabs rfl rfl rfl ?_
        | refine URun.split tabs rfl rfl rfl rfl (fun h => ?_) (fun h => ?_))
    | (refine TRun.id ?_; first
        | refine TRun.nil ?_
        | refine TRun.many rfl rfl (by kernel_rfl) ?_ ?_
        | (refine TRun.toCall 26 rfl ?_; first
          | refine TRun.callB rfl rfl rfl rfl (p26 _ _ _ _) rfl rfl ?_ rfl rfl (fun h => ?_) (fun h => ?_))
        | refine TRun.same rfl rfl rfl ?_
        | refine TRun.same2 rfl rfl rfl ?_
        | refine TRun.split rfl rfl rfl rfl (fun h => ?_) (fun h => ?_))
    | (refine HoldsT.id ?_; first
        | refine HoldsT.seq ?_
        | refine HoldsT.regionU ?_
        | refine HoldsT.drawn tabs ?_
        | refine HoldsT.yes rfl ?_
        | refine HoldsT.no rfl ?_
        | refine HoldsT.cond rfl (fun h => ?_) (fun h => ?_)
        | refine HoldsT.block ?_
        | refine HoldsT.ret ?_
        | refine HoldsT.skip ?_
        | refine HoldsT.exit ?_)
    | (refine okTr_intro ?_; kernel_rfl)
    | exact absurd rfl h
    | refine allProp_C ?_ ?_
    | refine And.intro ?_ ?_
    | omega
    | (show _ < List.length _; omega)
    | exact rowlen_intro rfl
    | exact lenEq_intro rfl
    | exact Nat.le_of_ble_eq_true rfl
    | (simp only [AV.rowlenD, AV.rowlen, AV.ncells, mulSz, toN, Option.map_some, Option.map_none, cutL, List.length_take, List.length_drop, List.length_append, List.length_cons, List.length_nil, List.length_set, Option.some.injEq, Int.reduceToNat] <;> omega))
  all_goals refine FinC.te (y := .tup [.agg [.int .i64 _, .int .i64 _], .agg [.int .i64 _, .int .i64 _]]) rfl rfl ⟨⟨trivial, trivial, trivial⟩, ⟨trivial, trivial, trivial⟩, trivial⟩ (by rw [h]; rfl)


theorem toNat_succ {k : Int} (h : 0 ≤ k) : (k + 1).toNat = k.toNat + 1 := by omega
theorem take_succ_eq {α : Type} {a b : List α} {d : α} {k : Nat} (h : a.take k = b.take k) (ha : k < a.length) (hb : k < b.length) (he : a.getD k d = b.getD k d) : a.take (k + 1) = b.take (k + 1) := by
  rw [List.take_add_one, List.take_add_one, h]
  simp only [List.getD_eq_getElem?_getD, List.getElem?_eq_getElem ha, List.getElem?_eq_getElem hb, Option.getD_some] at he ⊢
  rw [he]

def sh30 (a b : List (List UInt8)) (k : Int) : TS := ⟨26, 5, (.node (.node (.node (.node (.node (.leaf (.slS a)) (J 0)) (J 1)) (J 2)) (J 3)) (.node (.node (.node (.node (.leaf (.slS b)) (J 0)) (J 1)) (.node (.node (.leaf (.int .i64 k)) (J 0)) (J 1))) (J 3))), (OO 5)⟩
set_option maxRecDepth 10000 in
set_option maxHeartbeats 8000000 in
theorem p30 (a b : List (List UInt8)) (ha : a.length ≤ 1000000000000) : Pure Try.prog 30 [.slS a, .slS b] (.bool (decide (a = b))) := by
  refine Pure.ofT tab_ok Try.func30 rfl rfl [.tmp 4] rfl (by decide) rfl ⟨26, 5, (.node (.node (.node (.node (.node (.leaf (.slS a)) (J 0)) (J 1)) (J 2)) (J 3)) (.node (.node (.node (.node (.leaf (.slS b)) (J 0)) (J 1)) (J 2)) (J 3))), (OO 5)⟩ (by kernel_rfl) (by kernel_rfl) ?_
  repeat' (first
    | refine allProp_T ?_
    | exact trivial
    | (refine URun.id ?_; first
        | refine URun.nil ?_
        | refine URun.many tabs rfl rfl (by kernel_rfl) ?_ ?_
        | refine URun.same tabs rfl rfl rfl ?_
        | refine URun.same2 tabs rfl rfl rfl ?_
        | refine URun.split tabs rfl rfl rfl rfl (fun h => ?_) (fun h => ?_))
    | (refine TRun.id ?_; first
        | refine TRun.nil ?_
        | refine TRun.many rfl rfl (by kernel_rfl) ?_ ?_
        | refine TRun.same rfl rfl rfl ?_
        | refine TRun.same2 rfl rfl rfl ?_
        | refine TRun.split rfl rfl rfl rfl (fun h => ?_) (fun h => ?_))
    | (refine HoldsT.id ?_; first
        | refine HoldsT.seq ?_
        | refine HoldsT.regionU ?_
        | refine HoldsT.drawn tabs ?_
        | refine HoldsT.yes rfl ?_
        | refine HoldsT.no rfl ?_
        | refine HoldsT.cond rfl (fun h => ?_) (fun h => ?_)
        | refine HoldsT.block ?_
        | refine HoldsT.ret ?_
        | refine HoldsT.skip ?_
        | refine HoldsT.exit ?_)
    | (refine okTr_intro ?_; kernel_rfl)
    | exact absurd rfl h
    | refine allProp_C ?_ ?_
    | refine And.intro ?_ ?_
    | omega
    | (show _ < List.length _; omega)
    | exact rowlen_intro rfl
    | exact lenEq_intro rfl
    | exact Nat.le_of_ble_eq_true rfl
    | (simp only [AV.rowlenD, AV.rowlen, AV.ncells, mulSz, toN, Option.map_some, Option.map_none, cutL, List.length_take, List.length_drop, List.length_append, List.length_cons, List.length_nil, List.length_set, Option.some.injEq, Int.reduceToNat] <;> omega))
  · refine FinC.te (y := .bool _) rfl rfl trivial (congrArg AV.bool (Eq.symm (decide_eq_false fun e => ?_)))
    subst e; omega
  · have hl : a.length = b.length := by omega
    refine HoldsT.loop (sh30 a b) (fun k => (a.length - k).toNat) (fun k => 0 ≤ k ∧ k ≤ a.length ∧ a.take k.toNat = b.take k.toNat) 0 ?_ ?_ (fun _ => by kernel_rfl) ?_
    · refine WeakT.of ?_ ?_ (by kernel_rfl)
      · repeat' (first | exact TTle.junk _ _ | exact TTle.same _ | refine TTle.node ?_ ?_ | refine TTle.leaf ?_ | exact AVle.junk _ | exact AVle.rfl' rfl | exact AVle.nilS | exact AVle.nilB)
      · repeat' (first | exact OOle.none _ _ | exact OOle.same _ | refine OOle.node ?_ ?_ | exact OOle.leaf _ | exact OOle.gone _)
    · exact ⟨by omega, by omega, rfl⟩
    · intro k hk
      obtain ⟨h1, h2, h3⟩ := hk
      show HoldsT Try.prog _ (sh30 a b k) _
      repeat' (first
        | refine allProp_T ?_
        | exact trivial
        | (refine URun.id ?_; first
            | refine URun.nil ?_
            | refine URun.many tabs rfl rfl (by kernel_rfl) ?_ ?_
            | refine URun.same tabs rfl rfl rfl ?_
            | refine URun.same2 tabs rfl rfl rfl ?_
            | refine URun.split tabs rfl rfl rfl rfl (fun h => ?_) (fun h => ?_))
        | (refine TRun.id ?_; first
            | refine TRun.nil ?_
            | refine TRun.many rfl rfl (by kernel_rfl) ?_ ?_
            | refine TRun.same rfl rfl rfl ?_
            | refine TRun.same2 rfl rfl rfl ?_
            | refine TRun.split rfl rfl rfl rfl (fun h => ?_) (fun h => ?_))
        | (refine HoldsT.id ?_; first
            | refine HoldsT.seq ?_
            | refine HoldsT.regionU ?_
            | refine HoldsT.drawn tabs ?_
            | refine HoldsT.yes rfl ?_
            | refine HoldsT.no rfl ?_
            | refine HoldsT.cond rfl (fun h => ?_) (fun h => ?_)
            | refine HoldsT.block ?_
            | refine HoldsT.ret ?_
            | refine HoldsT.skip ?_
            | refine HoldsT.exit ?_)
        | (refine okTr_intro ?_; kernel_rfl)
        | exact absurd rfl h
        | refine allProp_C ?_ ?_
        | refine And.intro ?_ ?_
        | omega
        | (show _ < List.length _; omega)
        | exact rowlen_intro rfl
        | exact lenEq_intro rfl
        | exact Nat.le_of_ble_eq_true rfl
        | (simp only [AV.rowlenD, AV.rowlen, AV.ncells, mulSz, toN, Option.map_some, Option.map_none, cutL, List.length_take, List.length_drop, List.length_append, List.length_cons, List.length_nil, List.length_set, Option.some.injEq, Int.reduceToNat] <;> omega))
      · refine FinC.te (y := .bool _) rfl rfl trivial (congrArg AV.bool (Eq.symm (decide_eq_false fun e => ?_)))
        subst e; exact h rfl
      · refine ⟨k + 1, ⟨by omega, by omega, by omega, ?_⟩, ?_⟩
        · rw [toNat_succ h1]; exact take_succ_eq h3 (by omega) (by omega) (Decidable.not_not.1 h)
        · refine WeakT.of ?_ ?_ (by kernel_rfl)
          · repeat' (first | exact TTle.junk _ _ | exact TTle.same _ | refine TTle.node ?_ ?_ | refine TTle.leaf ?_ | exact AVle.junk _ | exact AVle.rfl' rfl | exact AVle.nilS | exact AVle.nilB)
          · repeat' (first | exact OOle.none _ _ | exact OOle.same _ | refine OOle.node ?_ ?_ | exact OOle.leaf _ | exact OOle.gone _)
      · refine FinC.te (y := .bool _) rfl rfl trivial (congrArg AV.bool (Eq.symm (decide_eq_true ?_)))
        rw [List.take_of_length_le (by omega), List.take_of_length_le (by omega)] at h3
        exact h3

def placeL (ls : List (List UInt8)) (l c : Int) : Bool := decide (0 ≤ l ∧ l < ls.length ∧ 0 ≤ c ∧ c ≤ (ls.getD l.toNat []).length)

set_option maxRecDepth 10000 in
set_option maxHeartbeats 8000000 in
theorem p58 (ls : List (List UInt8)) (l c : Int) : Pure Try.prog 58 [.slS ls, .agg [.int .i64 l, .int .i64 c]] (.bool (placeL ls l c)) := by
  refine Pure.ofT tab_ok Try.func58 rfl rfl [.tmp 4] rfl (by decide) rfl ⟨31, 5, (.node (.node (.node (.node (.node (.leaf (.slS ls)) (J 0)) (J 1)) (J 2)) (J 3)) (.node (.node (.node (.node (.leaf (.agg [.int .i64 l, .int .i64 c])) (J 0)) (J 1)) (J 2)) (J 3))), (OO 5)⟩ (by kernel_rfl) (by kernel_rfl) ?_
  repeat' (first
    | refine allProp_T ?_
    | exact trivial
    | (refine URun.id ?_; first
        | refine URun.nil ?_
        | refine URun.many tabs rfl rfl (by kernel_rfl) ?_ ?_
        | refine URun.same tabs rfl rfl rfl ?_
        | refine URun.same2 tabs rfl rfl rfl ?_
        | refine URun.split tabs rfl rfl rfl rfl (fun h => ?_) (fun h => ?_))
    | (refine TRun.id ?_; first
        | refine TRun.nil ?_
        | refine TRun.many rfl rfl (by kernel_rfl) ?_ ?_
        | refine TRun.same rfl rfl rfl ?_
        | refine TRun.same2 rfl rfl rfl ?_
        | refine TRun.split rfl rfl rfl rfl (fun h => ?_) (fun h => ?_))
    | (refine HoldsT.id ?_; first
        | refine HoldsT.seq ?_
        | refine HoldsT.regionU ?_
        | refine HoldsT.drawn tabs ?_
        | refine HoldsT.yes rfl ?_
        | refine HoldsT.no rfl ?_
        | refine HoldsT.cond rfl (fun h => ?_) (fun h => ?_)
        | refine HoldsT.block ?_
        | refine HoldsT.ret ?_
        | refine HoldsT.skip ?_
        | refine HoldsT.exit ?_)
    | (refine okTr_intro ?_; kernel_rfl)
    | exact absurd rfl h
    | refine allProp_C ?_ ?_
    | refine And.intro ?_ ?_
    | omega
    | (show _ < List.length _; omega)
    | exact rowlen_intro rfl
    | exact lenEq_intro rfl
    | exact Nat.le_of_ble_eq_true rfl
    | (simp only [AV.rowlenD, AV.rowlen, AV.ncells, mulSz, toN, Option.map_some, Option.map_none, cutL, List.length_take, List.length_drop, List.length_append, List.length_cons, List.length_nil, List.length_set, Option.some.injEq, Int.reduceToNat] <;> omega))
  all_goals refine FinC.te (y := .bool _) rfl rfl trivial (congrArg AV.bool ?_)
  all_goals (unfold placeL; symm; first | exact decide_eq_true (by omega) | exact decide_eq_false (by omega))


end Go.Proofs.Ytefbgdnobnemkaa.AM

namespace Go.Proofs.Ytefbgdnobnemkaa.AM
open Go Go.RowKit

def validL (ls : List (List UInt8)) (k fl fc tl tc : Int) : Bool :=
  decide (0 ≤ fl ∧ fl ≤ tl ∧ tl < ls.length) && (decide (k = 0) && (placeL ls fl fc && placeL ls tl tc && !ltP tl tc fl fc) || decide (k = 1) || decide (k = 2 ∧ 0 ≤ fc ∧ fc ≤ tc))

set_option maxRecDepth 10000 in
set_option maxHeartbeats 2000000 in
theorem p55 (ls : List (List UInt8)) (k fl fc tl tc : Int) : Pure Try.prog 55 [.slS ls, .agg [.int .i64 k, .int .i64 fl, .int .i64 fc, .int .i64 tl, .int .i64 tc]] (.bool (validL ls k fl fc tl tc)) := by
  refine Pure.ofT tab_ok Try.func55 rfl rfl [.tmp 4] rfl (by decide) rfl ⟨65, 7, (.node (.node (.node (.node (.node (.node (.node (.leaf (.slS ls)) (J 0)) (J 1)) (J 2)) (J 3)) (J 4)) (J 5)) (.node (.node (.node (.node (.node (.node (.leaf (.agg [.int .i64 k, .int .i64 fl, .int .i64 fc, .int .i64 tl, .int .i64 tc])) (J 0)) (J 1)) (J 2)) (J 3)) (J 4)) (J 5))), (OO 7)⟩ (by kernel_rfl) (by kernel_rfl) ?_
  repeat' (first
    | refine allProp_T ?_
    | exact trivial
    | (refine URun.id ?_; first
        | refine URun.nil ?_
        | refine URun.many tabs rfl rfl (by kernel_rfl) ?_ ?_
        | (refine URun.toCall 58 rfl ?_; first
          | refine URun.callB tabs rfl rfl rfl rfl (p58 _ _ _) rfl rfl ?_ rfl rfl (fun h => ?_) (fun h => ?_))
        | (refine URun.toCall 25 rfl ?_; first
          | refine URun.callB tabs rfl rfl rfl rfl (p25 _ _ _ _) rfl rfl ?_ rfl rfl (fun h => ?_) (fun h => ?_))
        | refine URun.same tabs rfl rfl rfl ?_
        | refine URun.same2 tabs rfl rfl rfl ?_
        | refine URun.split tabs rfl rfl rfl rfl (fun h => ?_) (fun h => ?_))
    | (refine TRun.id ?_; first
        | refine TRun.nil ?_
        | refine TRun.many rfl rfl (by kernel_rfl) ?_ ?_
        | (refine TRun.toCall 58 rfl ?_; first
          | refine TRun.callB rfl rfl rfl rfl (p58 _ _ _) rfl rfl ?_ rfl rfl (fun h => ?_) (fun h => ?_))
        | (refine TRun.toCall 25 rfl ?_; first
          | refine TRun.callB rfl rfl rfl rfl (p25 _ _ _ _) rfl rfl ?_ rfl rfl (fun h => ?_) (fun h => ?_))
        | refine TRun.same rfl rfl rfl ?_
        | refine TRun.same2 rfl rfl rfl ?_
        | refine TRun.split rfl rfl rfl rfl (fun h => ?_) (fun h => ?_))
    | (refine HoldsT.id ?_; first
        | refine HoldsT.seq ?_
        | refine HoldsT.regionU ?_
        | refine HoldsT.drawn tabs ?_
        | refine HoldsT.yes rfl ?_
        | refine HoldsT.no rfl ?_
        | refine HoldsT.cond rfl (fun h => ?_) (fun h => ?_)
        | refine HoldsT.block ?_
        | refine HoldsT.ret ?_
        | refine HoldsT.skip ?_
        | refine HoldsT.exit ?_)
    | (refine okTr_intro ?_; kernel_rfl)
    | exact absurd rfl h
    | refine allProp_C ?_ ?_
    | refine And.intro ?_ ?_
    | omega
    | (show _ < List.length _; omega)
    | exact rowlen_intro rfl
    | exact lenEq_intro rfl
    | exact Nat.le_of_ble_eq_true rfl
    | (simp only [AV.rowlenD, AV.rowlen, AV.ncells, mulSz, toN, Option.map_some, Option.map_none, cutL, List.length_take, List.length_drop, List.length_append, List.length_cons, List.length_nil, List.length_set, Option.some.injEq, Int.reduceToNat] <;> omega))
  all_goals refine FinC.te (y := .bool _) rfl rfl trivial (congrArg AV.bool ?_)
  all_goals (simp only [validL]; simp [*]; try omega)

end Go.Proofs.Ytefbgdnobnemkaa.AM

namespace Go.Proofs.Ytefbgdnobnemkaa.AM
open Go Go.RowKit

def lenL (ls : List (List UInt8)) (i : Int) : Int := (ls.getD i.toNat []).length
def colF (ls : List (List UInt8)) (k fl fc i : Int) : Int := if k = 0 then (if i = fl then fc else 0) else if k = 2 then min fc (lenL ls i) else 0
def colT (ls : List (List UInt8)) (k tl tc i : Int) : Int := if k = 0 then (if i = tl then tc else lenL ls i) else if k = 2 then min tc (lenL ls i - 1) + 1 else lenL ls i

theorem tup2 {a b c d : Int} (h1 : a = c) (h2 : b = d) : AV.tup [.int .i64 a, .int .i64 b] = .tup [.int .i64 c, .int .i64 d] := by rw [h1, h2]

set_option maxRecDepth 10000 in
set_option maxHeartbeats 2000000 in
theorem p56 (ls : List (List UInt8)) (k fl fc tl tc i : Int) (h0 : 0 ≤ i) (h1 : i < ls.length) (hB : ∀ n : Nat, (ls.getD n []).length ≤ 1000000000000) (hq : k = 2 → -1000000000000000 ≤ tc) : Pure Try.prog 56 [.slS ls, .agg [.int .i64 k, .int .i64 fl, .int .i64 fc, .int .i64 tl, .int .i64 tc], .int .i64 i] (.tup [.int .i64 (colF ls k fl fc i), .int .i64 (colT ls k tl tc i)]) := by
  have hb := hB i.toNat
  refine Pure.ofT tab_ok Try.func56 rfl rfl [.tmp 6, .tmp 7] rfl (by decide) rfl ⟨51, 6, (.node (.node (.node (.node (.node (.node (.leaf (.slS ls)) (J 0)) (J 1)) (J 2)) (J 3)) (.node (.node (.node (.node (.leaf (.int .i64 i)) (J 0)) (J 1)) (J 2)) (J 3))) (.node (.node (.node (.node (.node (.leaf (.agg [.int .i64 k, .int .i64 fl, .int .i64 fc, .int .i64 tl, .int .i64 tc])) (J 0)) (J 1)) (J 2)) (J 3)) (J 4))), (OO 6)⟩ (by kernel_rfl) (by kernel_rfl) ?_
  repeat' (first
    | refine allProp_T ?_
    | exact trivial
    | (refine URun.id ?_; first
        | refine URun.nil ?_
        | refine URun.many tabs rfl rfl (by kernel_rfl) ?_ ?_
        | refine URun.same tabs rfl rfl rfl ?_
        | refine URun.same2 tabs rfl rfl rfl ?_
        | refine URun.split tabs rfl rfl rfl rfl (fun h => ?_) (fun h => ?_))
    | (refine TRun.id ?_; first
        | refine TRun.nil ?_
        | refine TRun.many rfl rfl (by kernel_rfl) ?_ ?_
        | refine TRun.same rfl rfl rfl ?_
        | refine TRun.same2 rfl rfl rfl ?_
        | refine TRun.split rfl rfl rfl rfl (fun h => ?_) (fun h => ?_))
    | (refine HoldsT.id ?_; first
        | refine HoldsT.seq ?_
        | refine HoldsT.regionU ?_
        | refine HoldsT.drawn tabs ?_
        | refine HoldsT.yes rfl ?_
        | refine HoldsT.no rfl ?_
        | refine HoldsT.cond rfl (fun h => ?_) (fun h => ?_)
        | refine HoldsT.block ?_
        | refine HoldsT.ret ?_
        | refine HoldsT.skip ?_
        | refine HoldsT.exit ?_)
    | (refine okTr_intro ?_; kernel_rfl)
    | exact absurd rfl h
    | refine allProp_C ?_ ?_
    | refine And.intro ?_ ?_
    | omega
    | (show _ < List.length _; omega)
    | exact rowlen_intro rfl
    | exact lenEq_intro rfl
    | exact Nat.le_of_ble_eq_true rfl
    | (simp only [AV.rowlenD, AV.rowlen, AV.ncells, mulSz, toN, Option.map_some, Option.map_none, cutL, List.length_take, List.length_drop, List.length_append, List.length_cons, List.length_nil, List.length_set, Option.some.injEq, Int.reduceToNat] <;> omega))
  all_goals refine FinC.te (y := .tup [.int .i64 _, .int .i64 _]) rfl rfl ⟨trivial, trivial, trivial⟩ ?_
  all_goals (refine tup2 ?_ ?_ <;> simp only [colF, colT, lenL] <;> (repeat' split) <;> omega)

def rowT (ls : List (List UInt8)) (k fl fc tl tc i : Int) : List UInt8 := cutL (ls.getD i.toNat []) (some (colF ls k fl fc i).toNat) (some (colT ls k tl tc i).toNat)

/-- The rows from one line on, n of them. -/
def rowsT (ls : List (List UInt8)) (k fl fc tl tc : Int) : Nat → List (List UInt8)
  | 0 => []
  | n + 1 => rowsT ls k fl fc tl tc n ++ [rowT ls k fl fc tl tc (fl + n)]

def textL (ls : List (List UInt8)) (k fl fc tl tc : Int) : List (List UInt8) := if validL ls k fl fc tl tc = true then rowsT ls k fl fc tl tc (tl - fl + 1).toNat else []

theorem validL_spec {ls : List (List UInt8)} {k fl fc tl tc : Int} (h : validL ls k fl fc tl tc = true) : (0 ≤ fl ∧ fl ≤ tl ∧ tl < ls.length) ∧ (k = 0 ∧ (0 ≤ fc ∧ fc ≤ lenL ls fl) ∧ (0 ≤ tc ∧ tc ≤ lenL ls tl) ∧ (fl = tl → fc ≤ tc) ∨ k = 1 ∨ k = 2 ∧ 0 ≤ fc ∧ fc ≤ tc) := by
  simp only [validL, placeL, ltP, Bool.and_eq_true, Bool.or_eq_true, decide_eq_true_eq, Bool.not_eq_true', decide_eq_false_iff_not] at h
  refine ⟨h.1, ?_⟩
  unfold lenL
  rcases h.2 with (h | h) | h
  · refine .inl ⟨h.1, ?_⟩; omega
  · exact .inr (.inl h)
  · exact .inr (.inr h)

theorem cols_ok {ls : List (List UInt8)} {k fl fc tl tc i : Int} (h : validL ls k fl fc tl tc = true) (h1 : fl ≤ i) (h2 : i ≤ tl) : 0 ≤ colF ls k fl fc i ∧ colF ls k fl fc i ≤ colT ls k tl tc i ∧ colT ls k tl tc i ≤ lenL ls i := by
  obtain ⟨h3, h4⟩ := validL_spec h
  have h5 : 0 ≤ lenL ls i := Int.natCast_nonneg _
  have h6 : 0 ≤ lenL ls fl := Int.natCast_nonneg _
  have h7 : i = fl → lenL ls i = lenL ls fl := fun e => by rw [e]
  have h8 : i = tl → lenL ls i = lenL ls tl := fun e => by rw [e]
  unfold colF colT
  (repeat' split) <;> omega

theorem rowsT_length (ls : List (List UInt8)) (k fl fc tl tc : Int) : ∀ n, (rowsT ls k fl fc tl tc n).length = n
  | 0 => rfl
  | n + 1 => by simp [rowsT, rowsT_length ls k fl fc tl tc n]

theorem tail_row {α : Type} (l : List α) (x : α) : l.length + [x].length = (l ++ [x]).length := by simp

def sh29 (ls : List (List UInt8)) (k fl fc tl tc i : Int) (out : List (List UInt8)) : TS := ⟨41, 6, (.node (.node (.node (.node (.node (.node (.leaf (.slS ls)) (J 0)) (J 1)) (J 2)) (J 3)) (.node (J 3) (.node (.node (.node (.leaf (.int .i64 i)) (J 0)) (J 1)) (J 2)))) (.node (.node (J 3) (.node (.node (.node (.leaf (.own 39 out.length)) (J 0)) (J 1)) (J 2))) (.node (.node (.node (.node (.leaf (.ptr 3 0)) (J 0)) (J 1)) (J 2)) (J 3)))), (.node (OO 5) (.node (OO 4) (.node (.node (.node (.node (.leaf (some ⟨true, false, .agg [.int .i64 k, .int .i64 fl, .int .i64 fc, .int .i64 tl, .int .i64 tc], 35⟩)) (OO 0)) (OO 1)) (OO 2)) (.node (.node (.node (OO 0) (.leaf (some ⟨true, true, .slS out, 9⟩))) (OO 1)) (OO 2)))))⟩

set_option maxRecDepth 10000 in
set_option maxHeartbeats 4000000 in
theorem p29 (ls : List (List UInt8)) (k fl fc tl tc : Int) (hL : ls.length ≤ 1000000000000) (hB : ∀ n : Nat, (ls.getD n []).length ≤ 1000000000000) : Pure Try.prog 29 [.slS ls, .agg [.int .i64 k, .int .i64 fl, .int .i64 fc, .int .i64 tl, .int .i64 tc]] (.slS (textL ls k fl fc tl tc)) := by
  refine Pure.ofT tab_ok Try.func29 rfl rfl [.tmp 4] rfl (by decide) rfl ⟨41, 6, (.node (.node (.node (.node (.node (.node (.leaf (.slS ls)) (J 0)) (J 1)) (J 2)) (J 3)) (J 4)) (.node (.node (.node (.node (.node (.leaf (.agg [.int .i64 k, .int .i64 fl, .int .i64 fc, .int .i64 tl, .int .i64 tc])) (J 0)) (J 1)) (J 2)) (J 3)) (J 4))), (OO 6)⟩ (by kernel_rfl) (by kernel_rfl) ?_
  repeat' (first
    | refine allProp_T ?_
    | exact trivial
    | (refine URun.id ?_; first
        | refine URun.nil ?_
        | refine URun.many tabs rfl rfl (by kernel_rfl) ?_ ?_
        | (refine URun.toCall 55 rfl ?_; first
          | refine URun.callB tabs rfl rfl rfl rfl (p55 _ _ _ _ _ _) rfl rfl ?_ rfl rfl (fun h => ?_) (fun h => ?_))
        | refine URun.same tabs rfl rfl rfl ?_
        | refine URun.same2 tabs rfl rfl rfl ?_
        | refine URun.split tabs rfl rfl rfl rfl (fun h => ?_) (fun h => ?_))
    | (refine TRun.id ?_; first
        | refine TRun.nil ?_
        | refine TRun.many rfl rfl (by kernel_rfl) ?_ ?_
        | (refine TRun.toCall 55 rfl ?_; first
          | refine TRun.callB rfl rfl rfl rfl (p55 _ _ _ _ _ _) rfl rfl ?_ rfl rfl (fun h => ?_) (fun h => ?_))
        | refine TRun.same rfl rfl rfl ?_
        | refine TRun.same2 rfl rfl rfl ?_
        | refine TRun.split rfl rfl rfl rfl (fun h => ?_) (fun h => ?_))
    | (refine HoldsT.id ?_; first
        | refine HoldsT.seq ?_
        | refine HoldsT.regionU ?_
        | refine HoldsT.drawn tabs ?_
        | refine HoldsT.yes rfl ?_
        | refine HoldsT.no rfl ?_
        | refine HoldsT.cond rfl (fun h => ?_) (fun h => ?_)
        | refine HoldsT.block ?_
        | refine HoldsT.ret ?_
        | refine HoldsT.skip ?_
        | refine HoldsT.exit ?_)
    | (refine okTr_intro ?_; kernel_rfl)
    | exact absurd rfl h
    | refine allProp_C ?_ ?_
    | refine And.intro ?_ ?_
    | omega
    | (show _ < List.length _; omega)
    | exact rowlen_intro rfl
    | exact lenEq_intro rfl
    | exact Nat.le_of_ble_eq_true rfl
    | (simp only [AV.rowlenD, AV.rowlen, AV.ncells, mulSz, toN, Option.map_some, Option.map_none, cutL, List.length_take, List.length_drop, List.length_append, List.length_cons, List.length_nil, List.length_set, Option.some.injEq, Int.reduceToNat] <;> omega))
  · obtain ⟨hv1, hv2⟩ := validL_spec h
    refine HoldsT.loop (fun x : Int × List (List UInt8) => sh29 ls k fl fc tl tc x.1 x.2) (fun x => (tl + 1 - x.1).toNat) (fun x => fl ≤ x.1 ∧ x.1 ≤ tl + 1 ∧ x.2 = rowsT ls k fl fc tl tc (x.1 - fl).toNat) (fl, []) ?_ ?_ (fun _ => by kernel_rfl) ?_
    · refine (WeakT.canon 5 39 9 (.slS []) rfl rfl rfl (by kernel_rfl) rfl).trans ?_
      refine WeakT.of ?_ ?_ (by kernel_rfl)
      · repeat' (first | exact TTle.junk _ _ | exact TTle.same _ | refine TTle.node ?_ ?_ | refine TTle.leaf ?_ | exact AVle.junk _ | exact AVle.rfl' rfl | exact AVle.nilS | exact AVle.nilB)
      · repeat' (first | exact OOle.none _ _ | exact OOle.same _ | refine OOle.node ?_ ?_ | exact OOle.leaf _ | exact OOle.gone _)
    · exact ⟨by simp, by simp; omega, by simp [rowsT]⟩
    · intro x hx
      obtain ⟨i, out⟩ := x
      obtain ⟨h1, h2, h3⟩ := hx
      simp only at h1 h2 h3
      have hlen : out.length = (i - fl).toNat := by rw [h3]; exact rowsT_length _ _ _ _ _ _ _
      have hc : i ≤ tl → 0 ≤ colF ls k fl fc i ∧ colF ls k fl fc i ≤ colT ls k tl tc i ∧ colT ls k tl tc i ≤ ((ls.getD i.toNat []).length : Int) := fun hi => cols_ok h h1 hi
      show HoldsT Try.prog _ (sh29 ls k fl fc tl tc i out) _
      repeat' (first
        | refine allProp_T ?_
        | exact trivial
        | (refine URun.id ?_; first
            | refine URun.nil ?_
            | refine URun.many tabs rfl rfl (by kernel_rfl) ?_ ?_
            | (refine URun.toCall 56 rfl ?_; first
              | refine URun.call tabs rfl rfl rfl rfl (p56 _ _ _ _ _ _ _ (by omega) (by omega) hB (by omega)) rfl rfl ?_ rfl ?_)
            | refine URun.same tabs rfl rfl rfl ?_
            | refine URun.same2 tabs rfl rfl rfl ?_
            | refine URun.split tabs rfl rfl rfl rfl (fun h => ?_) (fun h => ?_))
        | (refine TRun.id ?_; first
            | refine TRun.nil ?_
            | refine TRun.many rfl rfl (by kernel_rfl) ?_ ?_
            | (refine TRun.toCall 56 rfl ?_; first
              | refine TRun.call rfl rfl rfl rfl (p56 _ _ _ _ _ _ _ (by omega) (by omega) hB (by omega)) rfl rfl ?_ rfl ?_)
            | refine TRun.same rfl rfl rfl ?_
            | refine TRun.same2 rfl rfl rfl ?_
            | refine TRun.split rfl rfl rfl rfl (fun h => ?_) (fun h => ?_))
        | (refine HoldsT.id ?_; first
            | refine HoldsT.seq ?_
            | refine HoldsT.regionU ?_
            | refine HoldsT.drawn tabs ?_
            | refine HoldsT.yes rfl ?_
            | refine HoldsT.no rfl ?_
            | refine HoldsT.cond rfl (fun h => ?_) (fun h => ?_)
            | refine HoldsT.block ?_
            | refine HoldsT.ret ?_
            | refine HoldsT.skip ?_
            | refine HoldsT.exit ?_)
        | (refine okTr_intro ?_; kernel_rfl)
        | exact absurd rfl h
        | refine allProp_C ?_ ?_
        | refine And.intro ?_ ?_
        | omega
        | (show _ < List.length _; omega)
        | exact rowlen_intro rfl
        | exact lenEq_intro rfl
        | exact Nat.le_of_ble_eq_true rfl
        | (simp only [AV.rowlenD, AV.rowlen, AV.ncells, mulSz, toN, Option.map_some, Option.map_none, cutL, List.length_take, List.length_drop, List.length_append, List.length_cons, List.length_nil, List.length_set, Option.some.injEq, Int.reduceToNat] <;> omega))
      · refine ⟨(i + 1, out ++ [rowT ls k fl fc tl tc i]), ⟨by simp only at *; omega, by simp only at *; omega, by simp only at *; omega, ?_⟩, ?_⟩
        · simp only
          rw [show (i + 1 - fl).toNat = (i - fl).toNat + 1 by omega, rowsT, ← h3, show fl + ((i - fl).toNat : Int) = i by omega]
        · refine WeakT.of ?_ ?_ (by kernel_rfl)
          · repeat' (first | exact TTle.junk _ _ | exact TTle.same _ | refine TTle.node ?_ ?_ | refine TTle.leaf ?_ | exact AVle.junk _ | exact AVle.rfl' rfl | exact AVle.nilS | exact AVle.nilB | exact AVle.rfl' (congrArg (AV.own 39) (tail_row _ _)))
          · repeat' (first | exact OOle.none _ _ | exact OOle.same _ | refine OOle.node ?_ ?_ | exact OOle.leaf _ | exact OOle.gone _)
      · refine FinC.te (y := .slS _) rfl rfl ⟨rfl, trivial⟩ (congrArg AV.slS ?_)
        rw [textL, if_pos ‹_›, h3, show i = tl + 1 by omega, show tl + 1 - fl = tl - fl + 1 by omega]
  · exact FinC.t (y := .nilsl) rfl rfl trivial (by rw [textL, h]; exact AVle.nilS)

end Go.Proofs.Ytefbgdnobnemkaa.AM

namespace Go.Proofs.Ytefbgdnobnemkaa.AM
open Go Go.RowKit

theorem k23 : Pure Try.prog 23 [.agg [.int .i64 1, .int .i64 0], .agg [.int .i64 0, .int .i64 0]] (.tup [.agg [.int .i64 0, .int .i64 0], .agg [.int .i64 1, .int .i64 0]]) := p23 1 0 0 0
theorem k55a : Pure Try.prog 55 [.slS [[97, 98], [99, 100]], .agg [.int .i64 0, .int .i64 0, .int .i64 1, .int .i64 1, .int .i64 1]] (.bool true) := by
  have h := p55 [[97, 98], [99, 100]] 0 0 1 1 1
  rwa [show validL [[97, 98], [99, 100]] 0 0 1 1 1 = true by decide] at h
theorem k55b : Pure Try.prog 55 [.slS [[97, 98], [99, 100]], .agg [.int .i64 0, .int .i64 0, .int .i64 0, .int .i64 5, .int .i64 0]] (.bool false) := by
  have h := p55 [[97, 98], [99, 100]] 0 0 0 5 0
  rwa [show validL [[97, 98], [99, 100]] 0 0 0 5 0 = false by decide] at h
theorem k29 : Pure Try.prog 29 [.slS [[97, 98], [99, 100]], .agg [.int .i64 0, .int .i64 0, .int .i64 1, .int .i64 1, .int .i64 1]] (.slS [[98], [99]]) := by
  have h := p29 [[97, 98], [99, 100]] 0 0 1 1 1 (by decide) (fun n => by
    match n with
    | 0 => decide
    | 1 => decide
    | n + 2 => simp)
  rwa [show textL [[97, 98], [99, 100]] 0 0 1 1 1 = [[98], [99]] by decide] at h
theorem k30 : Pure Try.prog 30 [.slS [[98], [99]], .slS [[98], [99]]] (.bool true) := by
  have h := p30 [[98], [99]] [[98], [99]] (by decide)
  rwa [show decide (([[98], [99]] : List (List UInt8)) = [[98], [99]]) = true by decide] at h
theorem k25 : Pure Try.prog 25 [.agg [.int .i64 0, .int .i64 0], .agg [.int .i64 1, .int .i64 0]] (.bool true) := by
  have h := p25 0 0 1 0
  rwa [show ltP 0 0 1 0 = true by decide] at h

set_option maxRecDepth 10000 in
set_option maxHeartbeats 4000000 in
theorem p22 : Pure Try.prog 22 [] (.bool true) := by
  refine Pure.ofT tab_ok Try.func22 rfl rfl [.tmp 0] rfl (by decide) rfl ⟨47, 6, (J 6), (OO 6)⟩ (by kernel_rfl) (by kernel_rfl) ?_
  repeat' (first
    | refine allProp_T ?_
    | exact trivial
    | (refine URun.id ?_; first
        | refine URun.nil ?_
        | refine URun.many tabs rfl rfl (by kernel_rfl) ?_ ?_
        | (refine URun.toCall 23 rfl ?_; first
          | refine URun.call tabs rfl rfl rfl rfl k23 rfl rfl ?_ rfl ?_)
        | (refine URun.toCall 55 rfl ?_; first
          | refine URun.call tabs rfl rfl rfl rfl k55a rfl rfl ?_ rfl ?_
          | refine URun.call tabs rfl rfl rfl rfl k55b rfl rfl ?_ rfl ?_)
        | (refine URun.toCall 29 rfl ?_; first
          | refine URun.call tabs rfl rfl rfl rfl k29 rfl rfl ?_ rfl ?_)
        | (refine URun.toCall 30 rfl ?_; first
          | refine URun.call tabs rfl rfl rfl rfl k30 rfl rfl ?_ rfl ?_)
        | (refine URun.toCall 25 rfl ?_; first
          | refine URun.call tabs rfl rfl rfl rfl k25 rfl rfl ?_ rfl ?_)
        | refine URun.same tabs rfl rfl rfl ?_
        | refine URun.same2 tabs rfl rfl rfl ?_
        | refine URun.split tabs rfl rfl rfl rfl (fun h => ?_) (fun h => ?_))
    | (refine TRun.id ?_; first
        | refine TRun.nil ?_
        | refine TRun.many rfl rfl (by kernel_rfl) ?_ ?_
        | (refine TRun.toCall 23 rfl ?_; first
          | refine TRun.call rfl rfl rfl rfl k23 rfl rfl ?_ rfl ?_)
        | (refine TRun.toCall 55 rfl ?_; first
          | refine TRun.call rfl rfl rfl rfl k55a rfl rfl ?_ rfl ?_
          | refine TRun.call rfl rfl rfl rfl k55b rfl rfl ?_ rfl ?_)
        | (refine TRun.toCall 29 rfl ?_; first
          | refine TRun.call rfl rfl rfl rfl k29 rfl rfl ?_ rfl ?_)
        | (refine TRun.toCall 30 rfl ?_; first
          | refine TRun.call rfl rfl rfl rfl k30 rfl rfl ?_ rfl ?_)
        | (refine TRun.toCall 25 rfl ?_; first
          | refine TRun.call rfl rfl rfl rfl k25 rfl rfl ?_ rfl ?_)
        | refine TRun.same rfl rfl rfl ?_
        | refine TRun.same2 rfl rfl rfl ?_
        | refine TRun.split rfl rfl rfl rfl (fun h => ?_) (fun h => ?_))
    | (refine HoldsT.id ?_; first
        | refine HoldsT.seq ?_
        | refine HoldsT.regionU ?_
        | refine HoldsT.drawn tabs ?_
        | refine HoldsT.yes rfl ?_
        | refine HoldsT.no rfl ?_
        | refine HoldsT.cond rfl (fun h => ?_) (fun h => ?_)
        | refine HoldsT.block ?_
        | refine HoldsT.ret ?_
        | refine HoldsT.skip ?_
        | refine HoldsT.exit ?_)
    | (refine okTr_intro ?_; kernel_rfl)
    | exact absurd rfl h
    | refine allProp_C ?_ ?_
    | refine And.intro ?_ ?_
    | omega
    | (show _ < List.length _; omega)
    | exact rowlen_intro rfl
    | exact lenEq_intro rfl
    | exact Nat.le_of_ble_eq_true rfl
    | (simp only [AV.rowlenD, AV.rowlen, AV.ncells, mulSz, toN, Option.map_some, Option.map_none, cutL, List.length_take, List.length_drop, List.length_append, List.length_cons, List.length_nil, List.length_set, Option.some.injEq, Int.reduceToNat] <;> omega))
  exact FinC.te (y := .bool _) rfl rfl trivial rfl

end Go.Proofs.Ytefbgdnobnemkaa.AM

namespace Go.Proofs.Ytefbgdnobnemkaa.AM
open Go Go.RowKit

theorem k25s (a b : Int) : Pure Try.prog 25 [.agg [.int .i64 a, .int .i64 b], .agg [.int .i64 a, .int .i64 b]] (.bool false) := by
  have h := p25 a b a b
  rwa [show ltP a b a b = false by unfold ltP; exact decide_eq_false (by omega)] at h

set_option maxRecDepth 10000 in
set_option maxHeartbeats 4000000 in
theorem p3 (a b c d : Int) (line : Bool) : Pure Try.prog 3 [.agg [.int .i64 a, .int .i64 b], .agg [.int .i64 c, .int .i64 d], .bool line] (.bool true) := by
  refine Pure.ofT tab_ok Try.func3 rfl rfl [.tmp 6] rfl (by decide) rfl ⟨61, 6, (.node (.node (.node (.node (.node (.node (.leaf (.agg [.int .i64 a, .int .i64 b])) (J 0)) (J 1)) (J 2)) (J 3)) (.node (.node (.node (.node (.leaf (.bool line)) (J 0)) (J 1)) (J 2)) (J 3))) (.node (.node (.node (.node (.node (.leaf (.agg [.int .i64 c, .int .i64 d])) (J 0)) (J 1)) (J 2)) (J 3)) (J 4))), (OO 6)⟩ (by kernel_rfl) (by kernel_rfl) ?_
  repeat' (first
    | refine allProp_T ?_
    | exact trivial
    | (refine URun.id ?_; first
        | refine URun.nil ?_
        | refine URun.many tabs rfl rfl (by kernel_rfl) ?_ ?_
        | (refine URun.toCall 22 rfl ?_; first
          | refine URun.call tabs rfl rfl rfl rfl p22 rfl rfl ?_ rfl ?_)
        | (refine URun.toCall 23 rfl ?_; first
          | refine URun.call tabs rfl rfl rfl rfl (p23 _ _ _ _) rfl rfl ?_ rfl ?_)
        | (refine URun.toCall 24 rfl ?_; first
          | refine URun.call tabs rfl rfl rfl rfl (p24 _ _ _ _) rfl rfl ?_ rfl ?_)
        | (refine URun.toCall 25 rfl ?_; first
          | refine URun.call tabs rfl rfl rfl rfl (k25s _ _) rfl rfl ?_ rfl ?_
          | refine URun.call tabs rfl rfl rfl rfl (p25 _ _ _ _) rfl rfl ?_ rfl ?_)
        | (refine URun.toCall 26 rfl ?_; first
          | refine URun.call tabs rfl rfl rfl rfl (p26 _ _ _ _) rfl rfl ?_ rfl ?_)
        | refine URun.same tabs rfl rfl rfl ?_
        | refine URun.same2 tabs rfl rfl rfl ?_
        | refine URun.split tabs rfl rfl rfl rfl (fun h => ?_) (fun h => ?_))
    | (refine TRun.id ?_; first
        | refine TRun.nil ?_
        | refine TRun.many rfl rfl (by kernel_rfl) ?_ ?_
        | (refine TRun.toCall 22 rfl ?_; first
          | refine TRun.call rfl rfl rfl rfl p22 rfl rfl ?_ rfl ?_)
        | (refine TRun.toCall 23 rfl ?_; first
          | refine TRun.call rfl rfl rfl rfl (p23 _ _ _ _) rfl rfl ?_ rfl ?_)
        | (refine TRun.toCall 24 rfl ?_; first
          | refine TRun.call rfl rfl rfl rfl (p24 _ _ _ _) rfl rfl ?_ rfl ?_)
        | (refine TRun.toCall 25 rfl ?_; first
          | refine TRun.call rfl rfl rfl rfl (k25s _ _) rfl rfl ?_ rfl ?_
          | refine TRun.call rfl rfl rfl rfl (p25 _ _ _ _) rfl rfl ?_ rfl ?_)
        | (refine TRun.toCall 26 rfl ?_; first
          | refine TRun.call rfl rfl rfl rfl (p26 _ _ _ _) rfl rfl ?_ rfl ?_)
        | refine TRun.same rfl rfl rfl ?_
        | refine TRun.same2 rfl rfl rfl ?_
        | refine TRun.split rfl rfl rfl rfl (fun h => ?_) (fun h => ?_))
    | (refine HoldsT.id ?_; first
        | refine HoldsT.seq ?_
        | refine HoldsT.regionU ?_
        | refine HoldsT.drawn tabs ?_
        | refine HoldsT.yes rfl ?_
        | refine HoldsT.no rfl ?_
        | refine HoldsT.cond rfl (fun h => ?_) (fun h => ?_)
        | refine HoldsT.block ?_
        | refine HoldsT.ret ?_
        | refine HoldsT.skip ?_
        | refine HoldsT.exit ?_)
    | (refine okTr_intro ?_; kernel_rfl)
    | exact absurd rfl h
    | refine allProp_C ?_ ?_
    | refine And.intro ?_ ?_
    | omega
    | (show _ < List.length _; omega)
    | exact rowlen_intro rfl
    | exact lenEq_intro rfl
    | exact Nat.le_of_ble_eq_true rfl
    | (simp only [AV.rowlenD, AV.rowlen, AV.ncells, mulSz, toN, Option.map_some, Option.map_none, cutL, List.length_take, List.length_drop, List.length_append, List.length_cons, List.length_nil, List.length_set, Option.some.injEq, Int.reduceToNat] <;> omega))
  all_goals exact FinC.te (y := .bool _) rfl rfl trivial rfl

end Go.Proofs.Ytefbgdnobnemkaa.AM

namespace Go.Proofs.Ytefbgdnobnemkaa.AM
open Go Go.RowKit

def sumL (ls : List (List UInt8)) : Nat := (ls.map List.length).sum
def noLF (l : List UInt8) : Bool := l.all fun c => c != 10
def lightL (ls : List (List UInt8)) : Bool := decide (ls.length ≤ 40) && decide (sumL ls ≤ 1200) && ls.all noLF

theorem sumL_take (ls : List (List UInt8)) (i : Nat) (h : i < ls.length) : sumL (ls.take (i + 1)) = sumL (ls.take i) + (ls.getD i []).length := by
  unfold sumL
  rw [List.take_add_one, List.getElem?_eq_getElem h, List.map_append, List.sum_append, Option.toList_some, List.map_cons, List.map_nil, List.sum_cons, List.sum_nil]
  have : ls.getD i [] = ls[i] := by simp [h]
  rw [this]; rfl
theorem sumL_le (ls : List (List UInt8)) (i : Nat) : sumL (ls.take i) ≤ sumL ls := by
  have : sumL ls = sumL (ls.take i) + sumL (ls.drop i) := by
    unfold sumL
    rw [← List.sum_append, ← List.map_append, List.take_append_drop]
  omega
theorem all_take {α : Type} (p : α → Bool) (d : α) (l : List α) (i : Nat) (h : i < l.length) (h1 : (l.take i).all p = true) (h2 : p (l.getD i d) = true) : (l.take (i + 1)).all p = true := by
  rw [List.take_add_one, List.getElem?_eq_getElem h, List.all_append, h1]
  simpa [h] using h2
theorem all_not {α : Type} (p : α → Bool) (d : α) (l : List α) (i : Nat) (h : i < l.length) (h2 : p (l.getD i d) = false) : l.all p = false := by
  rw [List.all_eq_false]
  refine ⟨l[i], List.getElem_mem h, ?_⟩
  have : l.getD i d = l[i] := by simp [h]
  rw [this] at h2
  simp [h2]
theorem byte_ne {c : UInt8} (h : ¬ ((c.toNat : Int) = 10)) : (c != 10) = true := by
  simp only [bne_iff_ne, ne_eq]
  intro e; subst e; exact h rfl
theorem byte_eq {c : UInt8} (h : (c.toNat : Int) = 10) : (c != 10) = false := by
  have : c.toNat = 10 := by omega
  have : c = 10 := by
    apply UInt8.toNat_inj.1
    rw [this]; rfl
  subst this; rfl

def sh31a (ls : List (List UInt8)) (n i : Int) : TS := ⟨40, 6, (.node (.node (.node (.node (.node (.node (.leaf (.slS ls)) (J 0)) (J 1)) (J 2)) (.node (.node (.node (.leaf (.int .i64 i)) (J 0)) (J 1)) (J 2))) (J 4)) (.node (J 4) (.node (.node (.node (.node (.leaf (.int .i64 n)) (J 0)) (J 1)) (J 2)) (J 3)))), (OO 6)⟩
def sh31b (ls : List (List UInt8)) (n i k : Int) : TS := ⟨40, 6, (.node (.node (.node (.node (.node (.node (.leaf (.slS ls)) (J 0)) (J 1)) (J 2)) (.node (.node (.node (.leaf (.int .i64 i)) (J 0)) (J 1)) (J 2))) (J 4)) (.node (.node (J 3) (.node (.node (.node (.leaf (.int .i64 k)) (J 0)) (J 1)) (J 2))) (.node (.node (.node (.node (.leaf (.int .i64 n)) (J 0)) (J 1)) (J 2)) (J 3)))), (OO 6)⟩

set_option maxRecDepth 10000 in
set_option maxHeartbeats 4000000 in
theorem p31 (ls : List (List UInt8)) (hL : ls.length ≤ 140737488355328) (hB : ∀ n : Nat, (ls.getD n []).length ≤ 140737488355328) : Pure Try.prog 31 [.slS ls] (.bool (lightL ls)) := by
  refine Pure.ofT tab_ok Try.func31 rfl rfl [.tmp 2] rfl (by decide) rfl ⟨40, 6, (.node (.node (.node (.node (.node (.node (.leaf (.slS ls)) (J 0)) (J 1)) (J 2)) (J 3)) (J 4)) (J 5)), (OO 6)⟩ (by kernel_rfl) (by kernel_rfl) ?_
  repeat' (first
    | refine allProp_T ?_
    | exact trivial
    | (refine URun.id ?_; first
        | refine URun.nil ?_
        | refine URun.many tabs rfl rfl (by kernel_rfl) ?_ ?_
        | refine URun.same tabs rfl rfl rfl ?_
        | refine URun.same2 tabs rfl rfl rfl ?_
        | refine URun.split tabs rfl rfl rfl rfl (fun h => ?_) (fun h => ?_))
    | (refine TRun.id ?_; first
        | refine TRun.nil ?_
        | refine TRun.many rfl rfl (by kernel_rfl) ?_ ?_
        | refine TRun.same rfl rfl rfl ?_
        | refine TRun.same2 rfl rfl rfl ?_
        | refine TRun.split rfl rfl rfl rfl (fun h => ?_) (fun h => ?_))
    | (refine HoldsT.id ?_; first
        | refine HoldsT.seq ?_
        | refine HoldsT.regionU ?_
        | refine HoldsT.drawn tabs ?_
        | refine HoldsT.yes rfl ?_
        | refine HoldsT.no rfl ?_
        | refine HoldsT.cond rfl (fun h => ?_) (fun h => ?_)
        | refine HoldsT.block ?_
        | refine HoldsT.ret ?_
        | refine HoldsT.skip ?_
        | refine HoldsT.exit ?_)
    | (refine okTr_intro ?_; kernel_rfl)
    | exact absurd rfl h
    | refine allProp_C ?_ ?_
    | refine And.intro ?_ ?_
    | omega
    | (show _ < List.length _; omega)
    | exact rowlen_intro rfl
    | exact lenEq_intro rfl
    | exact Nat.le_of_ble_eq_true rfl
    | (simp only [AV.rowlenD, AV.rowlen, AV.ncells, mulSz, toN, Option.map_some, Option.map_none, cutL, List.length_take, List.length_drop, List.length_append, List.length_cons, List.length_nil, List.length_set, Option.some.injEq, Int.reduceToNat] <;> omega))
  · exact FinC.te (tab := tab) (y := .bool false) rfl rfl trivial (congrArg AV.bool (by unfold lightL; rw [decide_eq_false (by omega)]; rfl))
  · refine HoldsT.loop (fun x : Int × Int => sh31a ls x.1 x.2) (fun x => (ls.length - x.2).toNat) (fun x => 0 ≤ x.2 ∧ x.2 ≤ ls.length ∧ x.1 = sumL (ls.take x.2.toNat) ∧ x.1 ≤ 1200 ∧ (ls.take x.2.toNat).all noLF = true) (0, 0) ?_ ?_ (fun _ => by kernel_rfl) ?_
    · refine WeakT.of ?_ ?_ (by kernel_rfl)
      · repeat' (first | exact TTle.junk _ _ | exact TTle.same _ | refine TTle.node ?_ ?_ | refine TTle.leaf ?_ | exact AVle.junk _ | exact AVle.rfl' rfl | exact AVle.nilS | exact AVle.nilB)
      · repeat' (first | exact OOle.none _ _ | exact OOle.same _ | refine OOle.node ?_ ?_ | exact OOle.leaf _ | exact OOle.gone _)
    · exact ⟨by simp, by simp, by simp [sumL], by simp, by simp⟩
    · intro x hx
      obtain ⟨n, i⟩ := x
      obtain ⟨h1, h2, h3, h4, h5⟩ := hx
      simp only at h1 h2 h3 h4 h5
      have hb := hB i.toNat
      have hs : i < ls.length → sumL (ls.take (i.toNat + 1)) = sumL (ls.take i.toNat) + (ls.getD i.toNat []).length := fun hi => sumL_take ls i.toNat (by omega)
      show HoldsT Try.prog _ (sh31a ls n i) _
      repeat' (first
        | refine allProp_T ?_
        | exact trivial
        | (refine URun.id ?_; first
            | refine URun.nil ?_
            | refine URun.many tabs rfl rfl (by kernel_rfl) ?_ ?_
            | refine URun.same tabs rfl rfl rfl ?_
            | refine URun.same2 tabs rfl rfl rfl ?_
            | refine URun.split tabs rfl rfl rfl rfl (fun h => ?_) (fun h => ?_))
        | (refine TRun.id ?_; first
            | refine TRun.nil ?_
            | refine TRun.many rfl rfl (by kernel_rfl) ?_ ?_
            | refine TRun.same rfl rfl rfl ?_
            | refine TRun.same2 rfl rfl rfl ?_
            | refine TRun.split rfl rfl rfl rfl (fun h => ?_) (fun h => ?_))
        | (refine HoldsT.id ?_; first
            | refine HoldsT.seq ?_
            | refine HoldsT.regionU ?_
            | refine HoldsT.drawn tabs ?_
            | refine HoldsT.yes rfl ?_
            | refine HoldsT.no rfl ?_
            | refine HoldsT.cond rfl (fun h => ?_) (fun h => ?_)
            | refine HoldsT.block ?_
            | refine HoldsT.ret ?_
            | refine HoldsT.skip ?_
            | refine HoldsT.exit ?_)
        | (refine okTr_intro ?_; kernel_rfl)
        | exact absurd rfl h
        | refine allProp_C ?_ ?_
        | refine And.intro ?_ ?_
        | omega
        | (show _ < List.length _; omega)
        | exact rowlen_intro rfl
        | exact lenEq_intro rfl
        | exact Nat.le_of_ble_eq_true rfl
        | (simp only [AV.rowlenD, AV.rowlen, AV.ncells, mulSz, toN, Option.map_some, Option.map_none, cutL, List.length_take, List.length_drop, List.length_append, List.length_cons, List.length_nil, List.length_set, Option.some.injEq, Int.reduceToNat] <;> omega))
      · refine FinC.te (tab := tab) (y := .bool false) rfl rfl trivial (congrArg AV.bool ?_)
        have h6 := sumL_le ls (i.toNat + 1)
        unfold lightL
        rw [decide_eq_false (p := sumL ls ≤ 1200) (by omega)]
        simp
      · rename_i hi
        have hi' := hs hi
        refine HoldsT.loop (fun k : Int => sh31b ls (n + (ls.getD i.toNat []).length) i k) (fun k => ((ls.getD i.toNat []).length - k).toNat) (fun k => 0 ≤ k ∧ k ≤ (ls.getD i.toNat []).length ∧ noLF ((ls.getD i.toNat []).take k.toNat) = true) 0 ?_ ?_ (fun _ => by kernel_rfl) ?_
        · refine WeakT.of ?_ ?_ (by kernel_rfl)
          · repeat' (first | exact TTle.junk _ _ | exact TTle.same _ | refine TTle.node ?_ ?_ | refine TTle.leaf ?_ | exact AVle.junk _ | exact AVle.rfl' rfl | exact AVle.nilS | exact AVle.nilB)
          · repeat' (first | exact OOle.none _ _ | exact OOle.same _ | refine OOle.node ?_ ?_ | exact OOle.leaf _ | exact OOle.gone _)
        · exact ⟨by simp, by simp, by simp [noLF]⟩
        · intro k hk
          obtain ⟨k1, k2, k3⟩ := hk
          show HoldsT Try.prog _ (sh31b ls (n + (ls.getD i.toNat []).length) i k) _
          repeat' (first
            | refine allProp_T ?_
            | exact trivial
            | (refine URun.id ?_; first
                | refine URun.nil ?_
                | refine URun.many tabs rfl rfl (by kernel_rfl) ?_ ?_
                | refine URun.same tabs rfl rfl rfl ?_
                | refine URun.same2 tabs rfl rfl rfl ?_
                | refine URun.split tabs rfl rfl rfl rfl (fun h => ?_) (fun h => ?_))
            | (refine TRun.id ?_; first
                | refine TRun.nil ?_
                | refine TRun.many rfl rfl (by kernel_rfl) ?_ ?_
                | refine TRun.same rfl rfl rfl ?_
                | refine TRun.same2 rfl rfl rfl ?_
                | refine TRun.split rfl rfl rfl rfl (fun h => ?_) (fun h => ?_))
            | (refine HoldsT.id ?_; first
                | refine HoldsT.seq ?_
                | refine HoldsT.regionU ?_
                | refine HoldsT.drawn tabs ?_
                | refine HoldsT.yes rfl ?_
                | refine HoldsT.no rfl ?_
                | refine HoldsT.cond rfl (fun h => ?_) (fun h => ?_)
                | refine HoldsT.block ?_
                | refine HoldsT.ret ?_
                | refine HoldsT.skip ?_
                | refine HoldsT.exit ?_)
            | (refine okTr_intro ?_; kernel_rfl)
            | exact absurd rfl h
            | refine allProp_C ?_ ?_
            | refine And.intro ?_ ?_
            | omega
            | (show _ < List.length _; omega)
            | exact rowlen_intro rfl
            | exact lenEq_intro rfl
            | exact Nat.le_of_ble_eq_true rfl
            | (simp only [AV.rowlenD, AV.rowlen, AV.ncells, mulSz, toN, Option.map_some, Option.map_none, cutL, List.length_take, List.length_drop, List.length_append, List.length_cons, List.length_nil, List.length_set, Option.some.injEq, Int.reduceToNat] <;> omega))
          · refine FinC.te (tab := tab) (y := .bool false) rfl rfl trivial (congrArg AV.bool ?_)
            have h6 : noLF (ls.getD i.toNat []) = false := all_not _ 0 _ k.toNat (by omega) (byte_eq h)
            unfold lightL
            rw [all_not _ [] _ i.toNat (by omega) h6]
            simp
          · refine ⟨k + 1, ⟨by omega, by omega, by omega, ?_⟩, ?_⟩
            · rw [toNat_succ k1]; exact all_take _ 0 _ _ (by omega) k3 (byte_ne h)
            · refine WeakT.of ?_ ?_ (by kernel_rfl)
              · repeat' (first | exact TTle.junk _ _ | exact TTle.same _ | refine TTle.node ?_ ?_ | refine TTle.leaf ?_ | exact AVle.junk _ | exact AVle.rfl' rfl | exact AVle.nilS | exact AVle.nilB)
              · repeat' (first | exact OOle.none _ _ | exact OOle.same _ | refine OOle.node ?_ ?_ | exact OOle.leaf _ | exact OOle.gone _)
          · refine ⟨(n + (ls.getD i.toNat []).length, i + 1), ⟨by simp only; omega, by simp only; omega, by simp only; omega, ?_, by simp only; omega, ?_⟩, ?_⟩
            · simp only; rw [toNat_succ h1, hi']; omega
            · simp only; rw [toNat_succ h1]
              refine all_take _ [] _ _ (by omega) h5 ?_
              rw [List.take_of_length_le (by omega)] at k3
              exact k3
            · refine WeakT.of ?_ ?_ (by kernel_rfl)
              · repeat' (first | exact TTle.junk _ _ | exact TTle.same _ | refine TTle.node ?_ ?_ | refine TTle.leaf ?_ | exact AVle.junk _ | exact AVle.rfl' rfl | exact AVle.nilS | exact AVle.nilB)
              · repeat' (first | exact OOle.none _ _ | exact OOle.same _ | refine OOle.node ?_ ?_ | exact OOle.leaf _ | exact OOle.gone _)
      · refine FinC.te (tab := tab) (y := .bool true) rfl rfl trivial (congrArg AV.bool ?_)
        rw [List.take_of_length_le (by omega)] at h3 h5
        unfold lightL
        rw [decide_eq_true (by omega), decide_eq_true (by omega), h5]; rfl

set_option maxRecDepth 10000 in
set_option maxHeartbeats 8000000 in
theorem p27 (ls : List (List UInt8)) (hL : ls.length ≤ 140737488355328) (hB : ∀ n : Nat, (ls.getD n []).length ≤ 140737488355328) : Pure Try.prog 27 [.slS ls] (.bool (decide (0 < (ls.length : Int)) && lightL ls)) := by
  refine Pure.ofT tab_ok Try.func27 rfl rfl [.tmp 2] rfl (by decide) rfl ⟨10, 4, (.node (.node (.node (.node (.leaf (.slS ls)) (J 0)) (J 1)) (J 2)) (J 3)), (OO 4)⟩ (by kernel_rfl) (by kernel_rfl) ?_
  repeat' (first
    | refine allProp_T ?_
    | exact trivial
    | (refine URun.id ?_; first
        | refine URun.nil ?_
        | refine URun.many tabs rfl rfl (by kernel_rfl) ?_ ?_
        | (refine URun.toCall 31 rfl ?_; first
          | refine URun.callB tabs rfl rfl rfl rfl (p31 _ hL hB) rfl rfl ?_ rfl rfl (fun h => ?_) (fun h => ?_))
        | refine URun.same tabs rfl rfl rfl ?_
        | refine URun.same2 tabs rfl rfl rfl ?_
        | refine URun.split tabs rfl rfl rfl rfl (fun h => ?_) (fun h => ?_))
    | (refine TRun.id ?_; first
        | refine TRun.nil ?_
        | refine TRun.many rfl rfl (by kernel_rfl) ?_ ?_
        | (refine TRun.toCall 31 rfl ?_; first
          | refine TRun.callB rfl rfl rfl rfl (p31 _ hL hB) rfl rfl ?_ rfl rfl (fun h => ?_) (fun h => ?_))
        | refine TRun.same rfl rfl rfl ?_
        | refine TRun.same2 rfl rfl rfl ?_
        | refine TRun.split rfl rfl rfl rfl (fun h => ?_) (fun h => ?_))
    | (refine HoldsT.id ?_; first
        | refine HoldsT.seq ?_
        | refine HoldsT.regionU ?_
        | refine HoldsT.drawn tabs ?_
        | refine HoldsT.yes rfl ?_
        | refine HoldsT.no rfl ?_
        | refine HoldsT.cond rfl (fun h => ?_) (fun h => ?_)
        | refine HoldsT.block ?_
        | refine HoldsT.ret ?_
        | refine HoldsT.skip ?_
        | refine HoldsT.exit ?_)
    | (refine okTr_intro ?_; kernel_rfl)
    | exact absurd rfl h
    | refine allProp_C ?_ ?_
    | refine And.intro ?_ ?_
    | omega
    | (show _ < List.length _; omega)
    | exact rowlen_intro rfl
    | exact lenEq_intro rfl
    | exact Nat.le_of_ble_eq_true rfl
    | (simp only [AV.rowlenD, AV.rowlen, AV.ncells, mulSz, toN, Option.map_some, Option.map_none, cutL, List.length_take, List.length_drop, List.length_append, List.length_cons, List.length_nil, List.length_set, Option.some.injEq, Int.reduceToNat] <;> omega))
  all_goals refine FinC.te (y := .bool _) rfl rfl trivial (congrArg AV.bool ?_)
  all_goals simp only [*, Bool.true_and, Bool.false_and, decide_true, decide_false, Bool.and_true, Bool.and_false]

end Go.Proofs.Ytefbgdnobnemkaa.AM

namespace Go.Proofs.Ytefbgdnobnemkaa.AM
open Go Go.RowKit

theorem light_len {ls : List (List UInt8)} (h : (decide (0 < (ls.length : Int)) && lightL ls) = true) : 0 < (ls.length : Int) ∧ ls.length ≤ 40 ∧ ∀ n : Nat, (ls.getD n []).length ≤ 1200 := by
  simp only [lightL, Bool.and_eq_true, decide_eq_true_eq] at h
  refine ⟨h.1, h.2.1.1, fun n => ?_⟩
  rcases Nat.lt_or_ge n ls.length with hn | hn
  · have h1 := sumL_take ls n hn
    have h2 := sumL_le ls (n + 1)
    omega
  · simp [hn]

theorem rowsT_all {ls : List (List UInt8)} {k fc tl tc : Int} : ∀ n : Nat, n ≤ ls.length → (∀ i : Nat, i < n → rowT ls k 0 fc tl tc i = ls.getD i []) → rowsT ls k 0 fc tl tc n = ls.take n
  | 0, _, _ => rfl
  | n + 1, hn, h => by
    have hlt : n < ls.length := by omega
    rw [rowsT, rowsT_all n (by omega) fun i hi => h i (by omega), Int.zero_add, h n (by omega), List.take_add_one (l := ls), List.getElem?_eq_getElem hlt, show ls.getD n [] = ls[n] by simp [hlt]]
    rfl

theorem rowT_full {ls : List (List UInt8)} {k fc tl tc i : Int} (h1 : colF ls k 0 fc i = 0) (h2 : colT ls k tl tc i = lenL ls i) : rowT ls k 0 fc tl tc i = ls.getD i.toNat [] := by
  unfold rowT
  rw [h1, h2]
  simp [cutL, lenL]

theorem text_whole {ls : List (List UInt8)} {k tc : Int} (h0 : 0 < (ls.length : Int)) (hb : ∀ n : Nat, (ls.getD n []).length ≤ 1200)
    (hk : k = 0 ∧ tc = lenL ls ((ls.length : Int) - 1) ∨ k = 1 ∨ k = 2 ∧ 1200 ≤ tc) : textL ls k 0 0 ((ls.length : Int) - 1) tc = ls := by
  have hpos : ∀ i, 0 ≤ lenL ls i := fun i => Int.natCast_nonneg _
  have hle : ∀ i, lenL ls i ≤ 1200 := fun i => by unfold lenL; have := hb i.toNat; omega
  have hv : validL ls k 0 0 ((ls.length : Int) - 1) tc = true := by
    have e1 : decide (0 ≤ (0 : Int) ∧ 0 ≤ (ls.length : Int) - 1 ∧ (ls.length : Int) - 1 < ls.length) = true := decide_eq_true (by omega)
    unfold validL
    rw [e1, Bool.true_and]
    have h3 := hpos 0
    have h4 := hpos ((ls.length : Int) - 1)
    unfold lenL at h3 h4 hk
    rcases hk with ⟨rfl, hk⟩ | rfl | ⟨rfl, hk⟩
    · have e2 : placeL ls 0 0 = true := decide_eq_true (by omega)
      have e3 : placeL ls ((ls.length : Int) - 1) tc = true := decide_eq_true (by omega)
      have e4 : ltP ((ls.length : Int) - 1) tc 0 0 = false := decide_eq_false (by omega)
      rw [e2, e3, e4]; rfl
    · rfl
    · rw [decide_eq_true (p := (2 : Int) = 2 ∧ 0 ≤ (0 : Int) ∧ 0 ≤ tc) (by omega)]
      simp
  unfold textL
  rw [if_pos hv]
  have hn : ((ls.length : Int) - 1 - 0 + 1).toNat = ls.length := by omega
  rw [hn, rowsT_all ls.length (Nat.le_refl _) fun i hi => ?_, List.take_length]
  have h3 := hpos i
  have h4 := hle i
  have h5 : (i : Int) = (ls.length : Int) - 1 → lenL ls i = lenL ls ((ls.length : Int) - 1) := fun e => by rw [e]
  refine (rowT_full ?_ ?_).trans (by simp)
  · unfold colF; (repeat' split) <;> omega
  · unfold colT; (repeat' split) <;> omega

section
variable (ls : List (List UInt8)) (h : (decide (0 < (ls.length : Int)) && lightL ls) = true)
 include h
theorem w29a : Pure Try.prog 29 [.slS ls, .agg [.int .i64 0, .int .i64 0, .int .i64 0, .int .i64 ((ls.length : Int) - 1), .int .i64 ((ls.getD ((ls.length : Int) - 1).toNat []).length : Int)]] (.slS ls) := by
  obtain ⟨h0, h1, h2⟩ := light_len h
  have := p29 ls 0 0 0 ((ls.length : Int) - 1) ((ls.getD ((ls.length : Int) - 1).toNat []).length : Int) (by omega) (fun n => by have := h2 n; omega)
  have e := text_whole (k := 0) (tc := ((ls.getD ((ls.length : Int) - 1).toNat []).length : Int)) h0 h2 (.inl ⟨rfl, rfl⟩)
  rwa [e] at this
theorem w29b : Pure Try.prog 29 [.slS ls, .agg [.int .i64 1, .int .i64 0, .int .i64 0, .int .i64 ((ls.length : Int) - 1), .int .i64 0]] (.slS ls) := by
  obtain ⟨h0, h1, h2⟩ := light_len h
  have := p29 ls 1 0 0 ((ls.length : Int) - 1) 0 (by omega) (fun n => by have := h2 n; omega)
  rwa [text_whole h0 h2 (.inr (.inl rfl))] at this
theorem w29c : Pure Try.prog 29 [.slS ls, .agg [.int .i64 2, .int .i64 0, .int .i64 0, .int .i64 ((ls.length : Int) - 1), .int .i64 1048576]] (.slS ls) := by
  obtain ⟨h0, h1, h2⟩ := light_len h
  have := p29 ls 2 0 0 ((ls.length : Int) - 1) 1048576 (by omega) (fun n => by have := h2 n; omega)
  rwa [text_whole h0 h2 (.inr (.inr ⟨rfl, by omega⟩))] at this
theorem w30 : Pure Try.prog 30 [.slS ls, .slS ls] (.bool true) := by
  obtain ⟨h0, h1, h2⟩ := light_len h
  have := p30 ls ls (by omega)
  rwa [decide_eq_true rfl] at this
end

set_option maxRecDepth 10000 in
set_option maxHeartbeats 4000000 in
theorem p5 (ls : List (List UInt8)) (hL : ls.length ≤ 140737488355328) (hB : ∀ n : Nat, (ls.getD n []).length ≤ 140737488355328) : Pure Try.prog 5 [.slS ls] (.bool true) := by
  refine Pure.ofT tab_ok Try.func5 rfl rfl [.tmp 2] rfl (by decide) rfl ⟨48, 6, (.node (.node (.node (.node (.node (.node (.leaf (.slS ls)) (J 0)) (J 1)) (J 2)) (J 3)) (J 4)) (J 5)), (OO 6)⟩ (by kernel_rfl) (by kernel_rfl) ?_
  repeat' (first
    | refine allProp_T ?_
    | exact trivial
    | (refine URun.id ?_; first
        | refine URun.nil ?_
        | refine URun.many tabs rfl rfl (by kernel_rfl) ?_ ?_
        | (refine URun.toCall 22 rfl ?_; first
          | refine URun.call tabs rfl rfl rfl rfl p22 rfl rfl ?_ rfl ?_)
        | (refine URun.toCall 27 rfl ?_; first
          | refine URun.callB tabs rfl rfl rfl rfl (p27 _ hL hB) rfl rfl ?_ rfl rfl (fun h => ?_) (fun h => ?_))
        | (refine URun.toCall 29 rfl ?_; first
          | refine URun.call tabs rfl rfl rfl rfl (w29a _ (by assumption)) rfl rfl ?_ rfl ?_
          | refine URun.call tabs rfl rfl rfl rfl (w29b _ (by assumption)) rfl rfl ?_ rfl ?_
          | refine URun.call tabs rfl rfl rfl rfl (w29c _ (by assumption)) rfl rfl ?_ rfl ?_)
        | (refine URun.toCall 30 rfl ?_; first
          | refine URun.call tabs rfl rfl rfl rfl (w30 _ (by assumption)) rfl rfl ?_ rfl ?_)
        | refine URun.same tabs rfl rfl rfl ?_
        | refine URun.same2 tabs rfl rfl rfl ?_
        | refine URun.split tabs rfl rfl rfl rfl (fun h => ?_) (fun h => ?_))
    | (refine TRun.id ?_; first
        | refine TRun.nil ?_
        | refine TRun.many rfl rfl (by kernel_rfl) ?_ ?_
        | (refine TRun.toCall 22 rfl ?_; first
          | refine TRun.call rfl rfl rfl rfl p22 rfl rfl ?_ rfl ?_)
        | (refine TRun.toCall 27 rfl ?_; first
          | refine TRun.callB rfl rfl rfl rfl (p27 _ hL hB) rfl rfl ?_ rfl rfl (fun h => ?_) (fun h => ?_))
        | (refine TRun.toCall 29 rfl ?_; first
          | refine TRun.call rfl rfl rfl rfl (w29a _ (by assumption)) rfl rfl ?_ rfl ?_
          | refine TRun.call rfl rfl rfl rfl (w29b _ (by assumption)) rfl rfl ?_ rfl ?_
          | refine TRun.call rfl rfl rfl rfl (w29c _ (by assumption)) rfl rfl ?_ rfl ?_)
        | (refine TRun.toCall 30 rfl ?_; first
          | refine TRun.call rfl rfl rfl rfl (w30 _ (by assumption)) rfl rfl ?_ rfl ?_)
        | refine TRun.same rfl rfl rfl ?_
        | refine TRun.same2 rfl rfl rfl ?_
        | refine TRun.split rfl rfl rfl rfl (fun h => ?_) (fun h => ?_))
    | (refine HoldsT.id ?_; first
        | refine HoldsT.seq ?_
        | refine HoldsT.regionU ?_
        | refine HoldsT.drawn tabs ?_
        | refine HoldsT.yes rfl ?_
        | refine HoldsT.no rfl ?_
        | refine HoldsT.cond rfl (fun h => ?_) (fun h => ?_)
        | refine HoldsT.block ?_
        | refine HoldsT.ret ?_
        | refine HoldsT.skip ?_
        | refine HoldsT.exit ?_)
    | (refine okTr_intro ?_; kernel_rfl)
    | exact absurd rfl h
    | (obtain ⟨h0, h1, h2⟩ := light_len (by assumption); omega)
    | (obtain ⟨h0, h1, h2⟩ := light_len (by assumption); show _ < List.length _; omega)
    | refine allProp_C ?_ ?_
    | refine And.intro ?_ ?_
    | omega
    | (show _ < List.length _; omega)
    | exact rowlen_intro rfl
    | exact lenEq_intro rfl
    | exact Nat.le_of_ble_eq_true rfl
    | (simp only [AV.rowlenD, AV.rowlen, AV.ncells, mulSz, toN, Option.map_some, Option.map_none, cutL, List.length_take, List.length_drop, List.length_append, List.length_cons, List.length_nil, List.length_set, Option.some.injEq, Int.reduceToNat] <;> omega))
  all_goals exact FinC.te (tab := tab) (y := .bool true) rfl rfl trivial rfl

end Go.Proofs.Ytefbgdnobnemkaa.AM

namespace Go.Proofs.Ytefbgdnobnemkaa.AM
open Go Go.RowKit

def plL (ls : List (List UInt8)) (a : Int) : Int := a.tmod ls.length
def plC (ls : List (List UInt8)) (a b : Int) : Int := b.tmod (((ls.getD (plL ls a).toNat []).length : Int) + 1)

theorem tmod_in {a n : Int} (ha : 0 ≤ a) (hn : 0 < n) : 0 ≤ a.tmod n ∧ a.tmod n < n := ⟨Int.tmod_nonneg n ha, Int.tmod_lt_of_pos a hn⟩

theorem place_ok {ls : List (List UInt8)} {a b : Int} (h0 : 0 < (ls.length : Int)) (ha : 0 ≤ a) (hb : 0 ≤ b) : placeL ls (plL ls a) (plC ls a b) = true := by
  have h1 := tmod_in ha h0
  have h2 : 0 ≤ plC ls a b ∧ plC ls a b < ((ls.getD (plL ls a).toNat []).length : Int) + 1 := tmod_in hb (by omega)
  exact decide_eq_true ⟨h1.1, h1.2, h2.1, by omega⟩

set_option maxRecDepth 10000 in
set_option maxHeartbeats 4000000 in
theorem p28 (ls : List (List UInt8)) (a b : Int) (h0 : 0 < (ls.length : Int)) (ha : 0 ≤ a ∧ a ≤ 65535) (hb : 0 ≤ b ∧ b ≤ 65535) (hB : ∀ n : Nat, (ls.getD n []).length ≤ 140737488355328) : Pure Try.prog 28 [.slS ls, .int .u16 a, .int .u16 b] (.agg [.int .i64 (plL ls a), .int .i64 (plC ls a b)]) := by
  have h1 := tmod_in ha.1 h0
  have hb1 := hB (a.tmod ls.length).toNat
  refine Pure.ofT tab_ok Try.func28 rfl rfl [.cell 6 23] rfl (by decide) rfl ⟨24, 5, (.node (.node (.node (.node (.node (.leaf (.slS ls)) (J 0)) (J 1)) (J 2)) (.node (.node (.node (.leaf (.int .u16 b)) (J 0)) (J 1)) (J 2))) (.node (.node (.node (.node (.leaf (.int .u16 a)) (J 0)) (J 1)) (J 2)) (J 3))), (OO 5)⟩ (by kernel_rfl) (by kernel_rfl) ?_
  repeat' (first
    | refine allProp_T ?_
    | exact trivial
    | (refine URun.id ?_; first
        | refine URun.nil ?_
        | refine URun.many tabs rfl rfl (by kernel_rfl) ?_ ?_
        | refine URun.same tabs rfl rfl rfl ?_
        | refine URun.same2 tabs rfl rfl rfl ?_
        | refine URun.split tabs rfl rfl rfl rfl (fun h => ?_) (fun h => ?_))
    | (refine TRun.id ?_; first
        | refine TRun.nil ?_
        | refine TRun.many rfl rfl (by kernel_rfl) ?_ ?_
        | refine TRun.same rfl rfl rfl ?_
        | refine TRun.same2 rfl rfl rfl ?_
        | refine TRun.split rfl rfl rfl rfl (fun h => ?_) (fun h => ?_))
    | (refine HoldsT.id ?_; first
        | refine HoldsT.seq ?_
        | refine HoldsT.regionU ?_
        | refine HoldsT.drawn tabs ?_
        | refine HoldsT.yes rfl ?_
        | refine HoldsT.no rfl ?_
        | refine HoldsT.cond rfl (fun h => ?_) (fun h => ?_)
        | refine HoldsT.block ?_
        | refine HoldsT.ret ?_
        | refine HoldsT.skip ?_
        | refine HoldsT.exit ?_)
    | (refine okTr_intro ?_; kernel_rfl)
    | exact absurd rfl h
    | refine allProp_C ?_ ?_
    | refine And.intro ?_ ?_
    | omega
    | (show _ < List.length _; omega)
    | exact rowlen_intro rfl
    | exact lenEq_intro rfl
    | exact Nat.le_of_ble_eq_true rfl
    | (simp only [AV.rowlenD, AV.rowlen, AV.ncells, mulSz, toN, Option.map_some, Option.map_none, cutL, List.length_take, List.length_drop, List.length_append, List.length_cons, List.length_nil, List.length_set, Option.some.injEq, Int.reduceToNat] <;> omega))
  exact FinC.te (tab := tab) (y := .agg [.int .i64 _, .int .i64 _]) rfl rfl ⟨trivial, trivial, trivial⟩ rfl

end Go.Proofs.Ytefbgdnobnemkaa.AM

namespace Go.Proofs.Ytefbgdnobnemkaa.AM
open Go Go.RowKit

theorem join_rows (g1 g2 g3 : Nat → List UInt8) (a b : Nat) (h1 : ∀ i, i < a → g3 i = g1 i) (h2 : g3 a = g1 a ++ g2 0) (h3 : ∀ j, 1 ≤ j → j ≤ b → g3 (a + j) = g2 j) :
    (((List.range (a + 1)).map g1).take a ++ [((List.range (a + 1)).map g1).getD a [] ++ ((List.range (b + 1)).map g2).getD 0 []]) ++ ((List.range (b + 1)).map g2).drop 1 = (List.range (a + b + 1)).map g3 := by
  apply List.ext_getElem?
  intro i
  rcases Nat.lt_trichotomy i a with h | h | h
  · rw [List.getElem?_append_left (by simp; omega), List.getElem?_append_left (by simp; omega), List.getElem?_take_of_lt h, List.getElem?_map, List.getElem?_map, List.getElem?_range (by omega), List.getElem?_range (by omega)]
    simp [h1 i h]
  · subst h
    rw [List.getElem?_append_left (by simp), List.getElem?_append_right (by simp), List.getElem?_map, List.getElem?_range (by omega)]
    simp [h2]
  · rw [List.getElem?_append_right (by simp; omega), List.getElem?_map]
    by_cases hi : i < a + b + 1
    · rw [List.getElem?_range hi, List.getElem?_drop, List.getElem?_map, List.getElem?_range (by simp; omega)]
      have := h3 (i - a) (by omega) (by omega)
      rw [show a + (i - a) = i by omega] at this
      simp [this]
      congr 1; omega
    · rw [List.getElem?_eq_none (by simp; omega), List.getElem?_eq_none (by simp; omega)]; rfl

theorem rowsT_map (ls : List (List UInt8)) (k fl fc tl tc : Int) : ∀ n, rowsT ls k fl fc tl tc n = (List.range n).map fun i => rowT ls k fl fc tl tc (fl + (i : Nat))
  | 0 => rfl
  | n + 1 => by rw [rowsT, rowsT_map ls k fl fc tl tc n, List.range_succ, List.map_append]; rfl

theorem cut_cat {l : List UInt8} {a b c : Nat} (h1 : a ≤ b) (h2 : b ≤ c) : cutL l (some a) (some b) ++ cutL l (some b) (some c) = cutL l (some a) (some c) := by
  simp only [cutL]
  apply List.ext_getElem?
  intro i
  simp only [List.getElem?_append, List.getElem?_drop, List.getElem?_take, List.length_drop, List.length_take]
  by_cases hb : b ≤ l.length
  · rw [Nat.min_eq_left hb]
    by_cases hi : i < b - a
    · simp only [hi, if_true]
      rw [if_pos (by omega), if_pos (by omega)]
    · simp only [hi, if_false]
      rw [show b + (i - (b - a)) = a + i by omega]
  · rw [Nat.min_eq_right (by omega)]
    by_cases hi : i < l.length - a
    · simp only [hi, if_true]
      rw [if_pos (by omega), if_pos (by omega)]
    · simp only [hi, if_false]
      rw [List.getElem?_eq_none (by omega), List.getElem?_eq_none (by omega)]; simp

theorem validC {ls : List (List UInt8)} {fl fc tl tc : Int} (h1 : placeL ls fl fc = true) (h2 : placeL ls tl tc = true) (h3 : ltP tl tc fl fc = false) : validL ls 0 fl fc tl tc = true := by
  have a1 := of_decide_eq_true h1
  have a2 := of_decide_eq_true h2
  have a3 := of_decide_eq_false h3
  unfold validL
  rw [h1, h2, h3, decide_eq_true (by omega)]
  rfl

theorem textC {ls : List (List UInt8)} {fl fc tl tc : Int} (h : validL ls 0 fl fc tl tc = true) : textL ls 0 fl fc tl tc = (List.range ((tl - fl).toNat + 1)).map fun i => rowT ls 0 fl fc tl tc (fl + (i : Nat)) := by
  have h3 := (validL_spec h).1
  unfold textL
  rw [if_pos h, rowsT_map, show (tl - fl + 1).toNat = (tl - fl).toNat + 1 by omega]

theorem text_join {ls : List (List UInt8)} {x1 x2 y1 y2 z1 z2 : Int} (hx : placeL ls x1 x2 = true) (hy : placeL ls y1 y2 = true) (hz : placeL ls z1 z2 = true) (h1 : ltP y1 y2 x1 x2 = false) (h2 : ltP z1 z2 y1 y2 = false) {n : Int} (hn : n = ((textL ls 0 x1 x2 y1 y2).length : Int) - 1) :
    (cutL (textL ls 0 x1 x2 y1 y2) none (some n.toNat) ++ [(textL ls 0 x1 x2 y1 y2).getD n.toNat [] ++ (textL ls 0 y1 y2 z1 z2).getD 0 []]) ++ cutL (textL ls 0 y1 y2 z1 z2) (some 1) none = textL ls 0 x1 x2 z1 z2 := by
  have a1 := of_decide_eq_true hx
  have a2 := of_decide_eq_true hy
  have a3 := of_decide_eq_true hz
  have b1 := of_decide_eq_false h1
  have b2 := of_decide_eq_false h2
  have hxz : ltP z1 z2 x1 x2 = false := decide_eq_false (by omega)
  have v1 := validC hx hy h1
  have v2 := validC hy hz h2
  have v3 := validC hx hz hxz
  rw [textC v1] at hn
  simp only [List.length_map, List.length_range] at hn
  rw [textC v1, textC v2, textC v3, show n.toNat = (y1 - x1).toNat by omega, show (z1 - x1).toNat = (y1 - x1).toNat + (z1 - y1).toNat by omega]
  refine join_rows _ _ _ _ _ (fun i hi => ?_) ?_ (fun j hj hjb => ?_)
  · have e1 : colT ls 0 z1 z2 (x1 + (i : Nat)) = colT ls 0 y1 y2 (x1 + (i : Nat)) := by
      unfold colT; rw [if_pos rfl, if_pos rfl, if_neg (by omega), if_neg (by omega)]
    simp only [rowT, e1, colF]
  · have c1 := cols_ok v1 (i := y1) (by omega) (by omega)
    have c2 := cols_ok v2 (i := y1) (by omega) (by omega)
    have e1 : colF ls 0 x1 x2 y1 = colF ls 0 x1 x2 y1 := rfl
    have e2 : colT ls 0 y1 y2 y1 = y2 := by unfold colT; rw [if_pos rfl, if_pos rfl]
    have e3 : colF ls 0 y1 y2 y1 = y2 := by unfold colF; rw [if_pos rfl, if_pos rfl]
    rw [show x1 + (((y1 - x1).toNat : Nat) : Int) = y1 by omega, show y1 + ((0 : Nat) : Int) = y1 by omega]
    simp only [rowT, e2, e3]
    rw [e2] at c1
    rw [e3] at c2
    exact (cut_cat (by omega) (by omega)).symm
  · have e1 : colF ls 0 x1 x2 (y1 + (j : Nat)) = colF ls 0 y1 y2 (y1 + (j : Nat)) := by
      unfold colF; rw [if_pos rfl, if_pos rfl, if_neg (by omega), if_neg (by omega)]
    rw [show x1 + (((y1 - x1).toNat + j : Nat) : Int) = y1 + (j : Nat) by omega]
    simp only [rowT, e1, colT]

theorem text_small {ls : List (List UInt8)} (hl : ls.length ≤ 40) (hb : ∀ n : Nat, (ls.getD n []).length ≤ 1200) {fl fc tl tc : Int} (h : validL ls 0 fl fc tl tc = true) :
    0 < ((textL ls 0 fl fc tl tc).length : Int) ∧ (textL ls 0 fl fc tl tc).length ≤ 40 ∧ ∀ n : Nat, ((textL ls 0 fl fc tl tc).getD n []).length ≤ 1200 := by
  have h3 := (validL_spec h).1
  rw [textC h]
  refine ⟨by simp; omega, by simp; omega, fun n => ?_⟩
  rw [List.getD_eq_getElem?_getD, List.getElem?_map]
  by_cases hn : n < (tl - fl).toNat + 1
  · rw [List.getElem?_range hn]
    have := hb (fl + (n : Nat)).toNat
    simp only [Option.map_some, Option.getD_some, rowT, cutL, List.length_drop, List.length_take]
    omega
  · rw [List.getElem?_eq_none (by simp; omega)]; simp

set_option maxRecDepth 10000 in
set_option maxHeartbeats 8000000 in
theorem p4_walk (ls s t w : List (List UInt8)) (a b c d e f A1 A2 B1 B2 U1 U2 V1 V2 W1 W2 X1 X2 Y1 Y2 Z1 Z2 : Int) (q : Bool)
    (hL : ls.length ≤ 140737488355328) (hB : ∀ n : Nat, (ls.getD n []).length ≤ 140737488355328) (hok : (decide (0 < (ls.length : Int)) && lightL ls) = true)
    (k1 : Pure Try.prog 28 [.slS ls, .int .u16 a, .int .u16 b] (AV.agg [.int .i64 A1, .int .i64 A2])) (k2 : Pure Try.prog 28 [.slS ls, .int .u16 c, .int .u16 d] (AV.agg [.int .i64 B1, .int .i64 B2])) (k3 : Pure Try.prog 28 [.slS ls, .int .u16 e, .int .u16 f] (AV.agg [.int .i64 W1, .int .i64 W2]))
    (k4 : Pure Try.prog 23 [AV.agg [.int .i64 A1, .int .i64 A2], AV.agg [.int .i64 B1, .int .i64 B2]] (.tup [AV.agg [.int .i64 U1, .int .i64 U2], AV.agg [.int .i64 V1, .int .i64 V2]]))
    (k5 : Pure Try.prog 25 [AV.agg [.int .i64 W1, .int .i64 W2], AV.agg [.int .i64 V1, .int .i64 V2]] (.bool q))
    (hZ : q = true → Z1 = V1 ∧ Z2 = V2) (hZ' : q = false → Z1 = W1 ∧ Z2 = W2)
    (k6 : q = true → Pure Try.prog 23 [AV.agg [.int .i64 U1, .int .i64 U2], AV.agg [.int .i64 W1, .int .i64 W2]] (.tup [AV.agg [.int .i64 X1, .int .i64 X2], AV.agg [.int .i64 Y1, .int .i64 Y2]])) (k6' : q = false → Pure Try.prog 23 [AV.agg [.int .i64 U1, .int .i64 U2], AV.agg [.int .i64 V1, .int .i64 V2]] (.tup [AV.agg [.int .i64 X1, .int .i64 X2], AV.agg [.int .i64 Y1, .int .i64 Y2]]))
    (k7 : Pure Try.prog 29 [.slS ls, .agg [.int .i64 0, .int .i64 X1, .int .i64 X2, .int .i64 Y1, .int .i64 Y2]] (.slS s)) (k8 : Pure Try.prog 29 [.slS ls, .agg [.int .i64 0, .int .i64 Y1, .int .i64 Y2, .int .i64 Z1, .int .i64 Z2]] (.slS t)) (k9 : Pure Try.prog 29 [.slS ls, .agg [.int .i64 0, .int .i64 X1, .int .i64 X2, .int .i64 Z1, .int .i64 Z2]] (.slS w))
    (hs : 0 < (s.length : Int) ∧ s.length ≤ 40 ∧ ∀ n : Nat, (s.getD n []).length ≤ 1200) (ht : 0 < (t.length : Int) ∧ t.length ≤ 40 ∧ ∀ n : Nat, (t.getD n []).length ≤ 1200)
    (hj : (cutL s none (some ((s.length : Int) - 1).toNat) ++ [s.getD ((s.length : Int) - 1).toNat [] ++ t.getD 0 []]) ++ cutL t (some 1) none = w) :
    Pure Try.prog 4 [.slS ls, .int .u16 a, .int .u16 b, .int .u16 c, .int .u16 d, .int .u16 e, .int .u16 f] (.bool true) := by
  obtain ⟨hs1, hs2, hs3⟩ := hs
  obtain ⟨ht1, ht2, ht3⟩ := ht
  have hs4 := hs3 ((s.length : Int) - 1).toNat
  have ht4 := ht3 0
  have k27 := p27 ls hL hB
  rw [hok] at k27
  have k30 := p30 ((cutL s none (some ((s.length : Int) - 1).toNat) ++ [s.getD ((s.length : Int) - 1).toNat [] ++ t.getD 0 []]) ++ cutL t (some 1) none) w (by simp [cutL]; omega)
  rw [decide_eq_true hj] at k30
  cases q with
  | true =>
    obtain ⟨rfl, rfl⟩ := hZ rfl
    have k10 := k6 rfl
    clear hZ hZ' k6 k6'
    refine Pure.ofT tab_ok Try.func4 rfl rfl [.tmp 14] rfl (by decide) rfl ⟨101, 7, (.node (.node (.node (.node (.node (.node (.node (.leaf (.slS ls)) (J 0)) (J 1)) (J 2)) (J 3)) (.node (.node (.node (.node (.leaf (.int .u16 d)) (J 0)) (J 1)) (J 2)) (J 3))) (.node (.node (.node (.node (.node (.leaf (.int .u16 b)) (J 0)) (J 1)) (J 2)) (J 3)) (.node (.node (.node (.node (.leaf (.int .u16 f)) (J 0)) (J 1)) (J 2)) (J 3)))) (.node (.node (.node (.node (.node (.node (.leaf (.int .u16 a)) (J 0)) (J 1)) (J 2)) (J 3)) (.node (.node (.node (.node (.leaf (.int .u16 e)) (J 0)) (J 1)) (J 2)) (J 3))) (.node (.node (.node (.node (.node (.leaf (.int .u16 c)) (J 0)) (J 1)) (J 2)) (J 3)) (J 4)))), (OO 7)⟩ (by kernel_rfl) (by kernel_rfl) ?_
    repeat' (first
      | refine allProp_T ?_
      | exact trivial
      | (refine URun.id ?_; first
          | refine URun.nil ?_
          | refine URun.many tabs rfl rfl (by kernel_rfl) ?_ ?_
          | (refine URun.toCall 22 rfl ?_; first
            | refine URun.call tabs rfl rfl rfl rfl p22 rfl rfl ?_ rfl ?_)
          | (refine URun.toCall 27 rfl ?_; first
            | refine URun.call tabs rfl rfl rfl rfl k27 rfl rfl ?_ rfl ?_)
          | (refine URun.toCall 28 rfl ?_; first
            | refine URun.call tabs rfl rfl rfl rfl k1 rfl rfl ?_ rfl ?_
            | refine URun.call tabs rfl rfl rfl rfl k2 rfl rfl ?_ rfl ?_
            | refine URun.call tabs rfl rfl rfl rfl k3 rfl rfl ?_ rfl ?_)
          | (refine URun.toCall 23 rfl ?_; first
            | refine URun.call tabs rfl rfl rfl rfl k4 rfl rfl ?_ rfl ?_
            | refine URun.call tabs rfl rfl rfl rfl k10 rfl rfl ?_ rfl ?_)
          | (refine URun.toCall 25 rfl ?_; first
            | refine URun.call tabs rfl rfl rfl rfl k5 rfl rfl ?_ rfl ?_)
          | (refine URun.toCall 29 rfl ?_; first
            | refine URun.call tabs rfl rfl rfl rfl k7 rfl rfl ?_ rfl ?_
            | refine URun.call tabs rfl rfl rfl rfl k8 rfl rfl ?_ rfl ?_
            | refine URun.call tabs rfl rfl rfl rfl k9 rfl rfl ?_ rfl ?_)
          | (refine URun.toCall 30 rfl ?_; first
            | refine URun.call tabs rfl rfl rfl rfl k30 rfl rfl ?_ rfl ?_)
          | refine URun.same tabs rfl rfl rfl ?_
          | refine URun.same2 tabs rfl rfl rfl ?_
          | refine URun.yes tabs rfl rfl (by omega) rfl ?_
          | refine URun.no tabs rfl rfl (by omega) rfl ?_
          | refine URun.split tabs rfl rfl rfl rfl (fun h => ?_) (fun h => ?_))
      | (refine TRun.id ?_; first
          | refine TRun.nil ?_
          | refine TRun.many rfl rfl (by kernel_rfl) ?_ ?_
          | (refine TRun.toCall 22 rfl ?_; first
            | refine TRun.call rfl rfl rfl rfl p22 rfl rfl ?_ rfl ?_)
          | (refine TRun.toCall 27 rfl ?_; first
            | refine TRun.call rfl rfl rfl rfl k27 rfl rfl ?_ rfl ?_)
          | (refine TRun.toCall 28 rfl ?_; first
            | refine TRun.call rfl rfl rfl rfl k1 rfl rfl ?_ rfl ?_
            | refine TRun.call rfl rfl rfl rfl k2 rfl rfl ?_ rfl ?_
            | refine TRun.call rfl rfl rfl rfl k3 rfl rfl ?_ rfl ?_)
          | (refine TRun.toCall 23 rfl ?_; first
            | refine TRun.call rfl rfl rfl rfl k4 rfl rfl ?_ rfl ?_
            | refine TRun.call rfl rfl rfl rfl k10 rfl rfl ?_ rfl ?_)
          | (refine TRun.toCall 25 rfl ?_; first
            | refine TRun.call rfl rfl rfl rfl k5 rfl rfl ?_ rfl ?_)
          | (refine TRun.toCall 29 rfl ?_; first
            | refine TRun.call rfl rfl rfl rfl k7 rfl rfl ?_ rfl ?_
            | refine TRun.call rfl rfl rfl rfl k8 rfl rfl ?_ rfl ?_
            | refine TRun.call rfl rfl rfl rfl k9 rfl rfl ?_ rfl ?_)
          | (refine TRun.toCall 30 rfl ?_; first
            | refine TRun.call rfl rfl rfl rfl k30 rfl rfl ?_ rfl ?_)
          | refine TRun.same rfl rfl rfl ?_
          | refine TRun.same2 rfl rfl rfl ?_
          | refine TRun.yes rfl rfl (by omega) rfl ?_
          | refine TRun.no rfl rfl (by omega) rfl ?_
          | refine TRun.split rfl rfl rfl rfl (fun h => ?_) (fun h => ?_))
      | (refine HoldsT.id ?_; first
          | refine HoldsT.seq ?_
          | refine HoldsT.regionU ?_
          | refine HoldsT.drawn tabs ?_
          | refine HoldsT.yes rfl ?_
          | refine HoldsT.no rfl ?_
          | refine HoldsT.cond rfl (fun h => ?_) (fun h => ?_)
          | refine HoldsT.block ?_
          | refine HoldsT.ret ?_
          | refine HoldsT.skip ?_
          | refine HoldsT.exit ?_)
      | (refine okTr_intro ?_; kernel_rfl)
      | exact absurd rfl h
      | refine allProp_C ?_ ?_
      | refine And.intro ?_ ?_
      | omega
      | (show _ < List.length _; omega)
      | exact rowlen_intro rfl
      | exact lenEq_intro rfl
      | exact Nat.le_of_ble_eq_true rfl
      | (simp only [AV.rowlenD, AV.rowlen, AV.ncells, mulSz, toN, Option.map_some, Option.map_none, cutL, List.length_take, List.length_drop, List.length_append, List.length_cons, List.length_nil, List.length_set, Option.some.injEq, Int.reduceToNat] <;> omega))
    exact FinC.te (y := .bool true) rfl rfl trivial rfl
  | false =>
    obtain ⟨rfl, rfl⟩ := hZ' rfl
    have k10 := k6' rfl
    clear hZ hZ' k6 k6'
    refine Pure.ofT tab_ok Try.func4 rfl rfl [.tmp 14] rfl (by decide) rfl ⟨101, 7, (.node (.node (.node (.node (.node (.node (.node (.leaf (.slS ls)) (J 0)) (J 1)) (J 2)) (J 3)) (.node (.node (.node (.node (.leaf (.int .u16 d)) (J 0)) (J 1)) (J 2)) (J 3))) (.node (.node (.node (.node (.node (.leaf (.int .u16 b)) (J 0)) (J 1)) (J 2)) (J 3)) (.node (.node (.node (.node (.leaf (.int .u16 f)) (J 0)) (J 1)) (J 2)) (J 3)))) (.node (.node (.node (.node (.node (.node (.leaf (.int .u16 a)) (J 0)) (J 1)) (J 2)) (J 3)) (.node (.node (.node (.node (.leaf (.int .u16 e)) (J 0)) (J 1)) (J 2)) (J 3))) (.node (.node (.node (.node (.node (.leaf (.int .u16 c)) (J 0)) (J 1)) (J 2)) (J 3)) (J 4)))), (OO 7)⟩ (by kernel_rfl) (by kernel_rfl) ?_
    repeat' (first
      | refine allProp_T ?_
      | exact trivial
      | (refine URun.id ?_; first
          | refine URun.nil ?_
          | refine URun.many tabs rfl rfl (by kernel_rfl) ?_ ?_
          | (refine URun.toCall 22 rfl ?_; first
            | refine URun.call tabs rfl rfl rfl rfl p22 rfl rfl ?_ rfl ?_)
          | (refine URun.toCall 27 rfl ?_; first
            | refine URun.call tabs rfl rfl rfl rfl k27 rfl rfl ?_ rfl ?_)
          | (refine URun.toCall 28 rfl ?_; first
            | refine URun.call tabs rfl rfl rfl rfl k1 rfl rfl ?_ rfl ?_
            | refine URun.call tabs rfl rfl rfl rfl k2 rfl rfl ?_ rfl ?_
            | refine URun.call tabs rfl rfl rfl rfl k3 rfl rfl ?_ rfl ?_)
          | (refine URun.toCall 23 rfl ?_; first
            | refine URun.call tabs rfl rfl rfl rfl k4 rfl rfl ?_ rfl ?_
            | refine URun.call tabs rfl rfl rfl rfl k10 rfl rfl ?_ rfl ?_)
          | (refine URun.toCall 25 rfl ?_; first
            | refine URun.call tabs rfl rfl rfl rfl k5 rfl rfl ?_ rfl ?_)
          | (refine URun.toCall 29 rfl ?_; first
            | refine URun.call tabs rfl rfl rfl rfl k7 rfl rfl ?_ rfl ?_
            | refine URun.call tabs rfl rfl rfl rfl k8 rfl rfl ?_ rfl ?_
            | refine URun.call tabs rfl rfl rfl rfl k9 rfl rfl ?_ rfl ?_)
          | (refine URun.toCall 30 rfl ?_; first
            | refine URun.call tabs rfl rfl rfl rfl k30 rfl rfl ?_ rfl ?_)
          | refine URun.same tabs rfl rfl rfl ?_
          | refine URun.same2 tabs rfl rfl rfl ?_
          | refine URun.yes tabs rfl rfl (by omega) rfl ?_
          | refine URun.no tabs rfl rfl (by omega) rfl ?_
          | refine URun.split tabs rfl rfl rfl rfl (fun h => ?_) (fun h => ?_))
      | (refine TRun.id ?_; first
          | refine TRun.nil ?_
          | refine TRun.many rfl rfl (by kernel_rfl) ?_ ?_
          | (refine TRun.toCall 22 rfl ?_; first
            | refine TRun.call rfl rfl rfl rfl p22 rfl rfl ?_ rfl ?_)
          | (refine TRun.toCall 27 rfl ?_; first
            | refine TRun.call rfl rfl rfl rfl k27 rfl rfl ?_ rfl ?_)
          | (refine TRun.toCall 28 rfl ?_; first
            | refine TRun.call rfl rfl rfl rfl k1 rfl rfl ?_ rfl ?_
            | refine TRun.call rfl rfl rfl rfl k2 rfl rfl ?_ rfl ?_
            | refine TRun.call rfl rfl rfl rfl k3 rfl rfl ?_ rfl ?_)
          | (refine TRun.toCall 23 rfl ?_; first
            | refine TRun.call rfl rfl rfl rfl k4 rfl rfl ?_ rfl ?_
            | refine TRun.call rfl rfl rfl rfl k10 rfl rfl ?_ rfl ?_)
          | (refine TRun.toCall 25 rfl ?_; first
            | refine TRun.call rfl rfl rfl rfl k5 rfl rfl ?_ rfl ?_)
          | (refine TRun.toCall 29 rfl ?_; first
            | refine TRun.call rfl rfl rfl rfl k7 rfl rfl ?_ rfl ?_
            | refine TRun.call rfl rfl rfl rfl k8 rfl rfl ?_ rfl ?_
            | refine TRun.call rfl rfl rfl rfl k9 rfl rfl ?_ rfl ?_)
          | (refine TRun.toCall 30 rfl ?_; first
            | refine TRun.call rfl rfl rfl rfl k30 rfl rfl ?_ rfl ?_)
          | refine TRun.same rfl rfl rfl ?_
          | refine TRun.same2 rfl rfl rfl ?_
          | refine TRun.yes rfl rfl (by omega) rfl ?_
          | refine TRun.no rfl rfl (by omega) rfl ?_
          | refine TRun.split rfl rfl rfl rfl (fun h => ?_) (fun h => ?_))
      | (refine HoldsT.id ?_; first
          | refine HoldsT.seq ?_
          | refine HoldsT.regionU ?_
          | refine HoldsT.drawn tabs ?_
          | refine HoldsT.yes rfl ?_
          | refine HoldsT.no rfl ?_
          | refine HoldsT.cond rfl (fun h => ?_) (fun h => ?_)
          | refine HoldsT.block ?_
          | refine HoldsT.ret ?_
          | refine HoldsT.skip ?_
          | refine HoldsT.exit ?_)
      | (refine okTr_intro ?_; kernel_rfl)
      | exact absurd rfl h
      | refine allProp_C ?_ ?_
      | refine And.intro ?_ ?_
      | omega
      | (show _ < List.length _; omega)
      | exact rowlen_intro rfl
      | exact lenEq_intro rfl
      | exact Nat.le_of_ble_eq_true rfl
      | (simp only [AV.rowlenD, AV.rowlen, AV.ncells, mulSz, toN, Option.map_some, Option.map_none, cutL, List.length_take, List.length_drop, List.length_append, List.length_cons, List.length_nil, List.length_set, Option.some.injEq, Int.reduceToNat] <;> omega))
    exact FinC.te (y := .bool true) rfl rfl trivial rfl

set_option maxRecDepth 10000 in
set_option maxHeartbeats 8000000 in
theorem p4_no (ls : List (List UInt8)) (a b c d e f : Int) (hL : ls.length ≤ 140737488355328) (hB : ∀ n : Nat, (ls.getD n []).length ≤ 140737488355328) (hok : (decide (0 < (ls.length : Int)) && lightL ls) = false) :
    Pure Try.prog 4 [.slS ls, .int .u16 a, .int .u16 b, .int .u16 c, .int .u16 d, .int .u16 e, .int .u16 f] (.bool true) := by
  have k27 := p27 ls hL hB
  rw [hok] at k27
  refine Pure.ofT tab_ok Try.func4 rfl rfl [.tmp 14] rfl (by decide) rfl ⟨101, 7, (.node (.node (.node (.node (.node (.node (.node (.leaf (.slS ls)) (J 0)) (J 1)) (J 2)) (J 3)) (.node (.node (.node (.node (.leaf (.int .u16 d)) (J 0)) (J 1)) (J 2)) (J 3))) (.node (.node (.node (.node (.node (.leaf (.int .u16 b)) (J 0)) (J 1)) (J 2)) (J 3)) (.node (.node (.node (.node (.leaf (.int .u16 f)) (J 0)) (J 1)) (J 2)) (J 3)))) (.node (.node (.node (.node (.node (.node (.leaf (.int .u16 a)) (J 0)) (J 1)) (J 2)) (J 3)) (.node (.node (.node (.node (.leaf (.int .u16 e)) (J 0)) (J 1)) (J 2)) (J 3))) (.node (.node (.node (.node (.node (.leaf (.int .u16 c)) (J 0)) (J 1)) (J 2)) (J 3)) (J 4)))), (OO 7)⟩ (by kernel_rfl) (by kernel_rfl) ?_
  repeat' (first
    | refine allProp_T ?_
    | exact trivial
    | (refine URun.id ?_; first
        | refine URun.nil ?_
        | refine URun.many tabs rfl rfl (by kernel_rfl) ?_ ?_
        | (refine URun.toCall 22 rfl ?_; first
          | refine URun.call tabs rfl rfl rfl rfl p22 rfl rfl ?_ rfl ?_)
        | (refine URun.toCall 27 rfl ?_; first
          | refine URun.call tabs rfl rfl rfl rfl k27 rfl rfl ?_ rfl ?_)
        | refine URun.same tabs rfl rfl rfl ?_
        | refine URun.same2 tabs rfl rfl rfl ?_
        | refine URun.split tabs rfl rfl rfl rfl (fun h => ?_) (fun h => ?_))
    | (refine TRun.id ?_; first
        | refine TRun.nil ?_
        | refine TRun.many rfl rfl (by kernel_rfl) ?_ ?_
        | (refine TRun.toCall 22 rfl ?_; first
          | refine TRun.call rfl rfl rfl rfl p22 rfl rfl ?_ rfl ?_)
        | (refine TRun.toCall 27 rfl ?_; first
          | refine TRun.call rfl rfl rfl rfl k27 rfl rfl ?_ rfl ?_)
        | refine TRun.same rfl rfl rfl ?_
        | refine TRun.same2 rfl rfl rfl ?_
        | refine TRun.split rfl rfl rfl rfl (fun h => ?_) (fun h => ?_))
    | (refine HoldsT.id ?_; first
        | refine HoldsT.seq ?_
        | refine HoldsT.regionU ?_
        | refine HoldsT.drawn tabs ?_
        | refine HoldsT.yes rfl ?_
        | refine HoldsT.no rfl ?_
        | refine HoldsT.cond rfl (fun h => ?_) (fun h => ?_)
        | refine HoldsT.block ?_
        | refine HoldsT.ret ?_
        | refine HoldsT.skip ?_
        | refine HoldsT.exit ?_)
    | (refine okTr_intro ?_; kernel_rfl)
    | exact absurd rfl h
    | refine allProp_C ?_ ?_
    | refine And.intro ?_ ?_
    | omega
    | (show _ < List.length _; omega)
    | exact rowlen_intro rfl
    | exact lenEq_intro rfl
    | exact Nat.le_of_ble_eq_true rfl
    | (simp only [AV.rowlenD, AV.rowlen, AV.ncells, mulSz, toN, Option.map_some, Option.map_none, cutL, List.length_take, List.length_drop, List.length_append, List.length_cons, List.length_nil, List.length_set, Option.some.injEq, Int.reduceToNat] <;> omega))
  exact FinC.te (y := .bool true) rfl rfl trivial rfl

theorem ltP_of {a b c d : Int} (h : ltP a b c d = true) : a < c ∨ (a = c ∧ b < d) := of_decide_eq_true h
theorem ltP_not {a b c d : Int} (h : ltP a b c d = false) : ¬ (a < c ∨ (a = c ∧ b < d)) := of_decide_eq_false h
theorem ltP_mk {a b c d : Int} (h : ¬ (a < c ∨ (a = c ∧ b < d))) : ltP a b c d = false := decide_eq_false h

theorem p4 (ls : List (List UInt8)) (a b c d e f : Int) (hL : ls.length ≤ 140737488355328) (hB : ∀ n : Nat, (ls.getD n []).length ≤ 140737488355328) (ha : inK .u16 a) (hb : inK .u16 b) (hc : inK .u16 c) (hd : inK .u16 d) (he : inK .u16 e) (hf : inK .u16 f) :
    Pure Try.prog 4 [.slS ls, .int .u16 a, .int .u16 b, .int .u16 c, .int .u16 d, .int .u16 e, .int .u16 f] (.bool true) := by
  cases hok : (decide (0 < (ls.length : Int)) && lightL ls) with
  | false => exact p4_no ls a b c d e f hL hB hok
  | true =>
    obtain ⟨h0, hl, hr⟩ := light_len hok
    have key : ∀ {A1 A2 B1 B2 W1 W2 : Int}, placeL ls A1 A2 = true → placeL ls B1 B2 = true → placeL ls W1 W2 = true →
        Pure Try.prog 28 [.slS ls, .int .u16 a, .int .u16 b] (AV.agg [.int .i64 A1, .int .i64 A2]) → Pure Try.prog 28 [.slS ls, .int .u16 c, .int .u16 d] (AV.agg [.int .i64 B1, .int .i64 B2]) → Pure Try.prog 28 [.slS ls, .int .u16 e, .int .u16 f] (AV.agg [.int .i64 W1, .int .i64 W2]) →
        Pure Try.prog 4 [.slS ls, .int .u16 a, .int .u16 b, .int .u16 c, .int .u16 d, .int .u16 e, .int .u16 f] (.bool true) := by
      intro A1 A2 B1 B2 W1 W2 hA hB' hW k1 k2 k3
      -- the ordered pairs
      have ord : ∀ P1 P2 Q1 Q2 : Int, placeL ls P1 P2 = true → placeL ls Q1 Q2 = true → ∃ M1 M2 N1 N2 : Int, placeL ls M1 M2 = true ∧ placeL ls N1 N2 = true ∧ ltP N1 N2 M1 M2 = false ∧ ((M1 = P1 ∧ M2 = P2 ∧ N1 = Q1 ∧ N2 = Q2) ∨ (M1 = Q1 ∧ M2 = Q2 ∧ N1 = P1 ∧ N2 = P2)) ∧
          Pure Try.prog 23 [.agg [.int .i64 P1, .int .i64 P2], .agg [.int .i64 Q1, .int .i64 Q2]] (.tup [.agg [.int .i64 M1, .int .i64 M2], .agg [.int .i64 N1, .int .i64 N2]]) := by
        intro P1 P2 Q1 Q2 hP hQ
        have h := p23 P1 P2 Q1 Q2
        cases hlt : ltP Q1 Q2 P1 P2 with
        | true =>
          rw [hlt] at h
          exact ⟨_, _, _, _, hQ, hP, by have := ltP_of hlt; exact ltP_mk (by omega), .inr ⟨rfl, rfl, rfl, rfl⟩, h⟩
        | false =>
          rw [hlt] at h
          exact ⟨_, _, _, _, hP, hQ, hlt, .inl ⟨rfl, rfl, rfl, rfl⟩, h⟩
      have fin : ∀ {U1 U2 V1 V2 X1 X2 Y1 Y2 Z1 Z2 : Int} {q : Bool}, Pure Try.prog 23 [AV.agg [.int .i64 A1, .int .i64 A2], AV.agg [.int .i64 B1, .int .i64 B2]] (.tup [AV.agg [.int .i64 U1, .int .i64 U2], AV.agg [.int .i64 V1, .int .i64 V2]]) → Pure Try.prog 25 [AV.agg [.int .i64 W1, .int .i64 W2], AV.agg [.int .i64 V1, .int .i64 V2]] (.bool q) →
          (q = true → Z1 = V1 ∧ Z2 = V2) → (q = false → Z1 = W1 ∧ Z2 = W2) →
          (q = true → Pure Try.prog 23 [AV.agg [.int .i64 U1, .int .i64 U2], AV.agg [.int .i64 W1, .int .i64 W2]] (.tup [AV.agg [.int .i64 X1, .int .i64 X2], AV.agg [.int .i64 Y1, .int .i64 Y2]])) → (q = false → Pure Try.prog 23 [AV.agg [.int .i64 U1, .int .i64 U2], AV.agg [.int .i64 V1, .int .i64 V2]] (.tup [AV.agg [.int .i64 X1, .int .i64 X2], AV.agg [.int .i64 Y1, .int .i64 Y2]])) →
          placeL ls X1 X2 = true → placeL ls Y1 Y2 = true → placeL ls Z1 Z2 = true → ltP Y1 Y2 X1 X2 = false → ltP Z1 Z2 Y1 Y2 = false →
          Pure Try.prog 4 [.slS ls, .int .u16 a, .int .u16 b, .int .u16 c, .int .u16 d, .int .u16 e, .int .u16 f] (.bool true) := by
        intro U1 U2 V1 V2 X1 X2 Y1 Y2 Z1 Z2 q k4 k5 hZ hZ' k6 k6' hX hY hZp h1 h2
        exact p4_walk ls _ _ _ a b c d e f A1 A2 B1 B2 U1 U2 V1 V2 W1 W2 X1 X2 Y1 Y2 Z1 Z2 q hL hB hok k1 k2 k3 k4 k5 hZ hZ' k6 k6'
          (p29 ls 0 X1 X2 Y1 Y2 (by omega) (fun n => by have := hr n; omega)) (p29 ls 0 Y1 Y2 Z1 Z2 (by omega) (fun n => by have := hr n; omega)) (p29 ls 0 X1 X2 Z1 Z2 (by omega) (fun n => by have := hr n; omega))
          (text_small hl hr (validC hX hY h1)) (text_small hl hr (validC hY hZp h2)) (text_join hX hY hZp h1 h2 rfl)
      obtain ⟨U1, U2, V1, V2, hU, hV, hUV, _, k4⟩ := ord A1 A2 B1 B2 hA hB'
      have k5 := p25 W1 W2 V1 V2
      have n1 := ltP_not hUV
      cases hq : ltP W1 W2 V1 V2 with
      | true =>
        rw [hq] at k5
        obtain ⟨X1, X2, Y1, Y2, hX, hY, hXY, hc, k6⟩ := ord U1 U2 W1 W2 hU hW
        refine fin (Z1 := V1) (Z2 := V2) k4 k5 (fun _ => ⟨rfl, rfl⟩) (fun h => by cases h) (fun _ => k6) (fun h => by cases h) hX hY hV hXY ?_
        have := ltP_of hq
        exact ltP_mk (by omega)
      | false =>
        rw [hq] at k5
        obtain ⟨X1, X2, Y1, Y2, hX, hY, hXY, hc, k6⟩ := ord U1 U2 V1 V2 hU hV
        refine fin (Z1 := W1) (Z2 := W2) k4 k5 (fun h => by cases h) (fun _ => ⟨rfl, rfl⟩) (fun h => by cases h) (fun _ => k6) hX hY hW hXY ?_
        have := ltP_not hq
        have := ltP_not hXY
        exact ltP_mk (by omega)
    exact key (place_ok h0 ha.1 hb.1) (place_ok h0 hc.1 hd.1) (place_ok h0 he.1 hf.1) (p28 ls a b h0 ha hb hB) (p28 ls c d h0 hc hd hB) (p28 ls e f h0 he hf hB)

end Go.Proofs.Ytefbgdnobnemkaa.AM
