/-
  Typing: what the functions compute.
-/
import Derived.Test.YtefbgdnobnemkaaK3
import Derived.Test.YtefbgdnobnemkaaG1
set_option linter.unusedSimpArgs false
set_option linter.unusedVariables false
set_option linter.unusedSectionVars false
namespace Go.Proofs.Ytefbgdnobnemkaa.AM
open Go Go.RowKit

set_option maxRecDepth 10000 in
set_option maxHeartbeats 8000000 in
theorem own66 (xs : List (List UInt8)) (hx : xs.length ≤ 8796093022208) : PureOwn Try.prog 66 [.slS xs] (.slS xs) 9 := by
  refine PureOwn.ofT Try.func66 rfl rfl (2) rfl ?_ ⟨8, 3, (.node (.node (.node (.leaf (.slS xs)) (J 0)) (J 1)) (J 2)), (OO 3)⟩ (by kernel_rfl) (by kernel_rfl) ?_
  · exact flatS
  repeat' (first
    | refine allProp_T ?_
    | exact trivial
    | (refine URun.id ?_; first
        | refine URun.nil ?_
        | refine URun.many tabs rfl rfl (by kernel_rfl) ?_ ?_
        | refine URun.isNil (e := 9) Try.underlying29 rfl rfl rfl rfl rfl rfl (fun h => ?_) ?_
        | refine URun.same tabs rfl rfl rfl ?_
        | refine URun.same2 tabs rfl rfl rfl ?_
        | refine URun.split tabs rfl rfl rfl rfl (fun h => ?_) (fun h => ?_))
    | (refine TRun.id ?_; first
        | refine TRun.nil ?_
        | refine TRun.many rfl rfl (by kernel_rfl) ?_ ?_
        | refine URun.isNil (e := 9) Try.underlying29 rfl rfl rfl rfl rfl rfl (fun h => ?_) ?_
        | refine TRun.same rfl rfl rfl ?_
        | refine TRun.same2 rfl rfl rfl ?_
        | refine TRun.split rfl rfl rfl rfl (fun h => ?_) (fun h => ?_))
    | (refine HoldsT.id ?_; first
        | refine HoldsT.seq ?_
        | refine HoldsT.regionU ?_
        | refine HoldsT.drawn tabs ?_
        | refine HoldsT.yes rfl ?_
        | refine HoldsT.no rfl ?_
        | refine HoldsT.cond rfl (fun h => ?_) (fun h => ?_)
        | refine HoldsT.block ?_
        | refine HoldsT.ret ?_
        | refine HoldsT.skip ?_
        | refine HoldsT.exit ?_)
    | (refine okTr_intro ?_; kernel_rfl)
    | exact absurd rfl h
    | refine allProp_C ?_ ?_
    | refine And.intro ?_ ?_
    | omega
    | (show _ < List.length _; omega)
    | exact rowlen_intro rfl
    | exact Nat.le_of_ble_eq_true rfl
    | (simp only [AV.rowlenD, AV.rowlen, AV.ncells, toN, Option.map_some, Option.map_none, cutL, List.length_take, List.length_drop, List.length_append, List.length_cons, List.length_nil, Option.some.injEq, Int.reduceToNat] <;> omega))
  · obtain rfl : xs = [] := List.eq_nil_of_length_eq_zero h
    exact FinOwn.nil rfl rfl rfl
  · exact FinOwn.row rfl rfl rfl (by simp [AV.rowlen, AV.rowlenD])

theorem p66 (xs : List (List UInt8)) (hx : xs.length ≤ 8796093022208) : Pure Try.prog 66 [.slS xs] (.slS xs) := (own66 xs hx).toPure rfl

/-- Lines n from one on. -/
def midL (ls : List (List UInt8)) (a n : Int) : List (List UInt8) := cutL ls (some a.toNat) (some (a + n).toNat)

set_option maxRecDepth 10000 in
set_option maxHeartbeats 8000000 in
theorem p80 (ls now : List (List UInt8)) (a n : Int) (hl : ls.length ≤ 8796093022208) (h0 : 0 ≤ a) (h1 : 0 ≤ n) (h2 : a + n ≤ ls.length) : Pure Try.prog 80 [.slS ls, .int .i64 a, .int .i64 n, .slS now] (.agg [.int .i64 a, .slS (midL ls a n), .slS now]) := by
  have k66 := p66 (cutL ls (some a.toNat) (some (a + n).toNat)) (by simp [cutL]; omega)
  refine Pure.ofT tab_ok Try.func80 rfl rfl [.cell 8 47] rfl (by decide) rfl ⟨19, 5, (.node (.node (.node (.node (.node (.leaf (.slS ls)) (J 0)) (J 1)) (J 2)) (.node (.node (.node (.leaf (.int .i64 n)) (J 0)) (J 1)) (J 2))) (.node (.node (.node (.node (.leaf (.int .i64 a)) (J 0)) (J 1)) (J 2)) (.node (.node (.node (.leaf (.slS now)) (J 0)) (J 1)) (J 2)))), (OO 5)⟩ (by kernel_rfl) (by kernel_rfl) ?_
  repeat' (first
    | refine allProp_T ?_
    | exact trivial
    | (refine URun.id ?_; first
        | refine URun.nil ?_
        | refine URun.many tabs rfl rfl (by kernel_rfl) ?_ ?_
        | (refine URun.toCall 66 rfl ?_; first
          | refine URun.call tabs rfl rfl rfl rfl k66 rfl rfl ?_ rfl ?_)
        | refine URun.same tabs rfl rfl rfl ?_
        | refine URun.same2 tabs rfl rfl rfl ?_
        | refine URun.split tabs rfl rfl rfl rfl (fun h => ?_) (fun h => ?_))
    | (refine TRun.id ?_; first
        | refine TRun.nil ?_
        | refine TRun.many rfl rfl (by kernel_rfl) ?_ ?_
        | (refine TRun.toCall 66 rfl ?_; first
          | refine TRun.call rfl rfl rfl rfl k66 rfl rfl ?_ rfl ?_)
        | refine TRun.same rfl rfl rfl ?_
        | refine TRun.same2 rfl rfl rfl ?_
        | refine TRun.split rfl rfl rfl rfl (fun h => ?_) (fun h => ?_))
    | (refine HoldsT.id ?_; first
        | refine HoldsT.seq ?_
        | refine HoldsT.regionU ?_
        | refine HoldsT.drawn tabs ?_
        | refine HoldsT.yes rfl ?_
        | refine HoldsT.no rfl ?_
        | refine HoldsT.cond rfl (fun h => ?_) (fun h => ?_)
        | refine HoldsT.block ?_
        | refine HoldsT.ret ?_
        | refine HoldsT.skip ?_
        | refine HoldsT.exit ?_)
    | (refine okTr_intro ?_; kernel_rfl)
    | exact absurd rfl h
    | refine allProp_C ?_ ?_
    | refine And.intro ?_ ?_
    | omega
    | (show _ < List.length _; omega)
    | exact rowlen_intro rfl
    | exact Nat.le_of_ble_eq_true rfl
    | (simp only [AV.rowlenD, AV.rowlen, AV.ncells, toN, Option.map_some, Option.map_none, cutL, List.length_take, List.length_drop, List.length_append, List.length_cons, List.length_nil, Option.some.injEq, Int.reduceToNat] <;> omega))
  all_goals trace_state
  exact FinC.te (y := .agg [.int .i64 _, .slS _, .slS _]) rfl rfl ⟨trivial, trivial, trivial, trivial⟩ rfl

def letterK (k : Int) : Bool := decide ((32 ≤ k ∧ k ≠ 127) ∨ k = 9)
set_option maxRecDepth 10000 in
set_option maxHeartbeats 8000000 in
theorem p59 (k : Int) : Pure Try.prog 59 [.int .u8 k] (.bool (letterK k)) := by
  refine Pure.ofT tab_ok Try.func59 rfl rfl [.tmp 2] rfl (by decide) rfl ⟨13, 4, (.node (.node (.node (.node (.leaf (.int .u8 k)) (J 0)) (J 1)) (J 2)) (J 3)), (OO 4)⟩ (by kernel_rfl) (by kernel_rfl) ?_
  repeat' (first
    | refine allProp_T ?_
    | exact trivial
    | (refine URun.id ?_; first
        | refine URun.nil ?_
        | refine URun.many tabs rfl rfl (by kernel_rfl) ?_ ?_
        | refine URun.same tabs rfl rfl rfl ?_
        | refine URun.same2 tabs rfl rfl rfl ?_
        | refine URun.split tabs rfl rfl rfl rfl (fun h => ?_) (fun h => ?_))
    | (refine TRun.id ?_; first
        | refine TRun.nil ?_
        | refine TRun.many rfl rfl (by kernel_rfl) ?_ ?_
        | refine TRun.same rfl rfl rfl ?_
        | refine TRun.same2 rfl rfl rfl ?_
        | refine TRun.split rfl rfl rfl rfl (fun h => ?_) (fun h => ?_))
    | (refine HoldsT.id ?_; first
        | refine HoldsT.seq ?_
        | refine HoldsT.regionU ?_
        | refine HoldsT.drawn tabs ?_
        | refine HoldsT.yes rfl ?_
        | refine HoldsT.no rfl ?_
        | refine HoldsT.cond rfl (fun h => ?_) (fun h => ?_)
        | refine HoldsT.block ?_
        | refine HoldsT.ret ?_
        | refine HoldsT.skip ?_
        | refine HoldsT.exit ?_)
    | (refine okTr_intro ?_; kernel_rfl)
    | exact absurd rfl h
    | refine allProp_C ?_ ?_
    | refine And.intro ?_ ?_
    | omega
    | (show _ < List.length _; omega)
    | exact rowlen_intro rfl
    | exact Nat.le_of_ble_eq_true rfl
    | (simp only [AV.rowlenD, AV.rowlen, AV.ncells, toN, Option.map_some, Option.map_none, cutL, List.length_take, List.length_drop, List.length_append, List.length_cons, List.length_nil, Option.some.injEq, Int.reduceToNat] <;> omega))
  all_goals refine FinC.te (y := .bool _) rfl rfl trivial (congrArg AV.bool ?_)
  all_goals (unfold letterK; first | exact (decide_eq_true (by omega)).symm | exact (decide_eq_false (by omega)).symm)
set_option maxRecDepth 10000 in
set_option maxHeartbeats 8000000 in
theorem p63 (k : Int) : Pure Try.prog 63 [.int .u8 k] (.bool (letterK k)) := by
  refine Pure.ofT tab_ok Try.func63 rfl rfl [.tmp 2] rfl (by decide) rfl ⟨13, 4, (.node (.node (.node (.node (.leaf (.int .u8 k)) (J 0)) (J 1)) (J 2)) (J 3)), (OO 4)⟩ (by kernel_rfl) (by kernel_rfl) ?_
  repeat' (first
    | refine allProp_T ?_
    | exact trivial
    | (refine URun.id ?_; first
        | refine URun.nil ?_
        | refine URun.many tabs rfl rfl (by kernel_rfl) ?_ ?_
        | refine URun.same tabs rfl rfl rfl ?_
        | refine URun.same2 tabs rfl rfl rfl ?_
        | refine URun.split tabs rfl rfl rfl rfl (fun h => ?_) (fun h => ?_))
    | (refine TRun.id ?_; first
        | refine TRun.nil ?_
        | refine TRun.many rfl rfl (by kernel_rfl) ?_ ?_
        | refine TRun.same rfl rfl rfl ?_
        | refine TRun.same2 rfl rfl rfl ?_
        | refine TRun.split rfl rfl rfl rfl (fun h => ?_) (fun h => ?_))
    | (refine HoldsT.id ?_; first
        | refine HoldsT.seq ?_
        | refine HoldsT.regionU ?_
        | refine HoldsT.drawn tabs ?_
        | refine HoldsT.yes rfl ?_
        | refine HoldsT.no rfl ?_
        | refine HoldsT.cond rfl (fun h => ?_) (fun h => ?_)
        | refine HoldsT.block ?_
        | refine HoldsT.ret ?_
        | refine HoldsT.skip ?_
        | refine HoldsT.exit ?_)
    | (refine okTr_intro ?_; kernel_rfl)
    | exact absurd rfl h
    | refine allProp_C ?_ ?_
    | refine And.intro ?_ ?_
    | omega
    | (show _ < List.length _; omega)
    | exact rowlen_intro rfl
    | exact Nat.le_of_ble_eq_true rfl
    | (simp only [AV.rowlenD, AV.rowlen, AV.ncells, toN, Option.map_some, Option.map_none, cutL, List.length_take, List.length_drop, List.length_append, List.length_cons, List.length_nil, Option.some.injEq, Int.reduceToNat] <;> omega))
  all_goals refine FinC.te (y := .bool _) rfl rfl trivial (congrArg AV.bool ?_)
  all_goals (unfold letterK; first | exact (decide_eq_true (by omega)).symm | exact (decide_eq_false (by omega)).symm)
set_option maxRecDepth 10000 in
set_option maxHeartbeats 8000000 in
theorem p62 (ls : List (List UInt8)) (l c : Int) : Pure Try.prog 62 [.slS ls, .agg [.int .i64 l, .int .i64 c]] (.bool (placeL ls l c)) := by
  refine Pure.ofT tab_ok Try.func62 rfl rfl [.tmp 4] rfl (by decide) rfl ⟨31, 5, (.node (.node (.node (.node (.node (.leaf (.slS ls)) (J 0)) (J 1)) (J 2)) (J 3)) (.node (.node (.node (.node (.leaf (.agg [.int .i64 l, .int .i64 c])) (J 0)) (J 1)) (J 2)) (J 3))), (OO 5)⟩ (by kernel_rfl) (by kernel_rfl) ?_
  repeat' (first
    | refine allProp_T ?_
    | exact trivial
    | (refine URun.id ?_; first
        | refine URun.nil ?_
        | refine URun.many tabs rfl rfl (by kernel_rfl) ?_ ?_
        | refine URun.same tabs rfl rfl rfl ?_
        | refine URun.same2 tabs rfl rfl rfl ?_
        | refine URun.split tabs rfl rfl rfl rfl (fun h => ?_) (fun h => ?_))
    | (refine TRun.id ?_; first
        | refine TRun.nil ?_
        | refine TRun.many rfl rfl (by kernel_rfl) ?_ ?_
        | refine TRun.same rfl rfl rfl ?_
        | refine TRun.same2 rfl rfl rfl ?_
        | refine TRun.split rfl rfl rfl rfl (fun h => ?_) (fun h => ?_))
    | (refine HoldsT.id ?_; first
        | refine HoldsT.seq ?_
        | refine HoldsT.regionU ?_
        | refine HoldsT.drawn tabs ?_
        | refine HoldsT.yes rfl ?_
        | refine HoldsT.no rfl ?_
        | refine HoldsT.cond rfl (fun h => ?_) (fun h => ?_)
        | refine HoldsT.block ?_
        | refine HoldsT.ret ?_
        | refine HoldsT.skip ?_
        | refine HoldsT.exit ?_)
    | (refine okTr_intro ?_; kernel_rfl)
    | exact absurd rfl h
    | refine allProp_C ?_ ?_
    | refine And.intro ?_ ?_
    | omega
    | (show _ < List.length _; omega)
    | exact rowlen_intro rfl
    | exact Nat.le_of_ble_eq_true rfl
    | (simp only [AV.rowlenD, AV.rowlen, AV.ncells, toN, Option.map_some, Option.map_none, cutL, List.length_take, List.length_drop, List.length_append, List.length_cons, List.length_nil, Option.some.injEq, Int.reduceToNat] <;> omega))
  all_goals refine FinC.te (y := .bool _) rfl rfl trivial (congrArg AV.bool ?_)
  all_goals (unfold placeL; first | exact (decide_eq_true (by omega)).symm | exact (decide_eq_false (by omega)).symm)
set_option maxRecDepth 10000 in
set_option maxHeartbeats 8000000 in
theorem p61 (ls now : List (List UInt8)) (l c : Int) (h0 : 0 ≤ l) (h1 : l < ls.length) : Pure Try.prog 61 [.slS ls, .agg [.int .i64 l, .int .i64 c], .slS now] (.agg [.int .i64 l, .slS [ls.getD l.toNat []], .slS now]) := by
  refine Pure.ofT tab_ok Try.func61 rfl rfl [.cell 6 47] rfl (by decide) rfl ⟨17, 5, (.node (.node (.node (.node (.node (.leaf (.slS ls)) (J 0)) (J 1)) (J 2)) (.node (.node (.node (.leaf (.slS now)) (J 0)) (J 1)) (J 2))) (.node (.node (.node (.node (.leaf (.agg [.int .i64 l, .int .i64 c])) (J 0)) (J 1)) (J 2)) (J 3))), (OO 5)⟩ (by kernel_rfl) (by kernel_rfl) ?_
  repeat' (first
    | refine allProp_T ?_
    | exact trivial
    | (refine URun.id ?_; first
        | refine URun.nil ?_
        | refine URun.many tabs rfl rfl (by kernel_rfl) ?_ ?_
        | refine URun.same tabs rfl rfl rfl ?_
        | refine URun.same2 tabs rfl rfl rfl ?_
        | refine URun.split tabs rfl rfl rfl rfl (fun h => ?_) (fun h => ?_))
    | (refine TRun.id ?_; first
        | refine TRun.nil ?_
        | refine TRun.many rfl rfl (by kernel_rfl) ?_ ?_
        | refine TRun.same rfl rfl rfl ?_
        | refine TRun.same2 rfl rfl rfl ?_
        | refine TRun.split rfl rfl rfl rfl (fun h => ?_) (fun h => ?_))
    | (refine HoldsT.id ?_; first
        | refine HoldsT.seq ?_
        | refine HoldsT.regionU ?_
        | refine HoldsT.drawn tabs ?_
        | refine HoldsT.yes rfl ?_
        | refine HoldsT.no rfl ?_
        | refine HoldsT.cond rfl (fun h => ?_) (fun h => ?_)
        | refine HoldsT.block ?_
        | refine HoldsT.ret ?_
        | refine HoldsT.skip ?_
        | refine HoldsT.exit ?_)
    | (refine okTr_intro ?_; kernel_rfl)
    | exact absurd rfl h
    | refine allProp_C ?_ ?_
    | refine And.intro ?_ ?_
    | omega
    | (show _ < List.length _; omega)
    | exact rowlen_intro rfl
    | exact Nat.le_of_ble_eq_true rfl
    | (simp only [AV.rowlenD, AV.rowlen, AV.ncells, toN, Option.map_some, Option.map_none, cutL, List.length_take, List.length_drop, List.length_append, List.length_cons, List.length_nil, Option.some.injEq, Int.reduceToNat] <;> omega))
  all_goals trace_state
  exact FinC.te (y := .agg [.int .i64 _, .slS _, .slS _]) rfl rfl ⟨trivial, ⟨rfl, trivial⟩, trivial, trivial⟩ rfl
set_option maxRecDepth 10000 in
set_option maxHeartbeats 8000000 in
theorem p37 (a b : Int) (ao an bo bn : List (List UInt8)) (h1 : ao.length ≤ 1000000000000) (h2 : an.length ≤ 1000000000000) : Pure Try.prog 37 [.agg [.int .i64 a, .slS ao, .slS an], .agg [.int .i64 b, .slS bo, .slS bn]] (.bool (decide (a = b) && (decide (ao = bo) && decide (an = bn)))) := by
  refine Pure.ofT tab_ok Try.func37 rfl rfl [.tmp 4] rfl (by decide) rfl ⟨24, 5, (.node (.node (.node (.node (.node (.leaf (.agg [.int .i64 a, .slS ao, .slS an])) (J 0)) (J 1)) (J 2)) (J 3)) (.node (.node (.node (.node (.leaf (.agg [.int .i64 b, .slS bo, .slS bn])) (J 0)) (J 1)) (J 2)) (J 3))), (OO 5)⟩ (by kernel_rfl) (by kernel_rfl) ?_
  repeat' (first
    | refine allProp_T ?_
    | exact trivial
    | (refine URun.id ?_; first
        | refine URun.nil ?_
        | refine URun.many tabs rfl rfl (by kernel_rfl) ?_ ?_
        | (refine URun.toCall 30 rfl ?_; first
          | refine URun.callB tabs rfl rfl rfl rfl (p30 _ _ h1) rfl rfl ?_ rfl rfl (fun h => ?_) (fun h => ?_)
          | refine URun.callB tabs rfl rfl rfl rfl (p30 _ _ h2) rfl rfl ?_ rfl rfl (fun h => ?_) (fun h => ?_))
        | refine URun.same tabs rfl rfl rfl ?_
        | refine URun.same2 tabs rfl rfl rfl ?_
        | refine URun.split tabs rfl rfl rfl rfl (fun h => ?_) (fun h => ?_))
    | (refine TRun.id ?_; first
        | refine TRun.nil ?_
        | refine TRun.many rfl rfl (by kernel_rfl) ?_ ?_
        | (refine TRun.toCall 30 rfl ?_; first
          | refine TRun.callB rfl rfl rfl rfl (p30 _ _ h1) rfl rfl ?_ rfl rfl (fun h => ?_) (fun h => ?_)
          | refine TRun.callB rfl rfl rfl rfl (p30 _ _ h2) rfl rfl ?_ rfl rfl (fun h => ?_) (fun h => ?_))
        | refine TRun.same rfl rfl rfl ?_
        | refine TRun.same2 rfl rfl rfl ?_
        | refine TRun.split rfl rfl rfl rfl (fun h => ?_) (fun h => ?_))
    | (refine HoldsT.id ?_; first
        | refine HoldsT.seq ?_
        | refine HoldsT.regionU ?_
        | refine HoldsT.drawn tabs ?_
        | refine HoldsT.yes rfl ?_
        | refine HoldsT.no rfl ?_
        | refine HoldsT.cond rfl (fun h => ?_) (fun h => ?_)
        | refine HoldsT.block ?_
        | refine HoldsT.ret ?_
        | refine HoldsT.skip ?_
        | refine HoldsT.exit ?_)
    | (refine okTr_intro ?_; kernel_rfl)
    | exact absurd rfl h
    | refine allProp_C ?_ ?_
    | refine And.intro ?_ ?_
    | omega
    | (show _ < List.length _; omega)
    | exact rowlen_intro rfl
    | exact Nat.le_of_ble_eq_true rfl
    | (simp only [AV.rowlenD, AV.rowlen, AV.ncells, toN, Option.map_some, Option.map_none, cutL, List.length_take, List.length_drop, List.length_append, List.length_cons, List.length_nil, Option.some.injEq, Int.reduceToNat] <;> omega))
  all_goals refine FinC.te (y := .bool _) rfl rfl trivial (congrArg AV.bool ?_)
  all_goals simp_all

end Go.Proofs.Ytefbgdnobnemkaa.AM

namespace Go.Proofs.Ytefbgdnobnemkaa.AM
open Go Go.RowKit

/-- A text that is written into a line: its lines. -/
def writeL (s : List UInt8) (c : Int) (t : List (List UInt8)) : List (List UInt8) :=
  (t.set 0 (cutL s none (some c.toNat) ++ t.getD 0 [])).set ((t.length : Int) - 1).toNat ((t.set 0 (cutL s none (some c.toNat) ++ t.getD 0 [])).getD ((t.length : Int) - 1).toNat [] ++ cutL s (some c.toNat) none)

structure TyR where
  ok : Bool
  at' : Int
  old : List (List UInt8)
  new : List (List UInt8)
  l : Int
  c : Int
def TyR.av (r : TyR) : AV := .tup [.agg [.int .i64 r.at', .slS r.old, .slS r.new], .agg [.int .i64 r.l, .int .i64 r.c], .bool r.ok]
def tyNo : TyR := ⟨false, 0, [], [], 0, 0⟩
theorem AVle.trans {x y z : AV} (h : AVle x y) (h' : AVle y z) : AVle x z := ⟨fun ρ A w v hv => h'.run ρ A w v (h.run ρ A w v hv)⟩
theorem noLe : AVle (.tup [.agg [.int .i64 0, .nilsl, .nilsl], .agg [.int .i64 0, .int .i64 0], .bool false]) tyNo.av :=
  .tup (.cons (.agg (.cons (.refl _) (.cons .nilS (.cons .nilS .nil)))) (.cons (.refl _) (.cons (.refl _) .nil)))

theorem getD_set_le {t : List (List UInt8)} {x : List UInt8} {i n b : Nat} (ht : ∀ n : Nat, (t.getD n []).length ≤ b) (hx : x.length ≤ b) : ((t.set i x).getD n []).length ≤ b := by
  rw [getD_set]
  split
  · exact hx
  · exact ht n
theorem cutL_le {α : Type} (l : List α) (a b : Option Nat) : (cutL l a b).length ≤ l.length := by
  cases a <;> cases b <;> simp [cutL] <;> omega

set_option maxRecDepth 10000 in
set_option maxHeartbeats 8000000 in
theorem p60_no (ls t : List (List UInt8)) (l c : Int) (h : placeL ls l c = false ∨ t = []) : Pure Try.prog 60 [.slS ls, .agg [.int .i64 l, .int .i64 c], .slS t] tyNo.av := by
  have k58 := p58 ls l c
  cases hp : placeL ls l c with
  | false =>
    rw [hp] at k58
    refine Pure.ofT tab_ok Try.func60 rfl rfl [.cell 6 47, .cell 7 23, .tmp 8] rfl (by decide) rfl ⟨70, 7, (.node (.node (.node (.node (.node (.node (.node (.leaf (.slS ls)) (J 0)) (J 1)) (J 2)) (J 3)) (J 4)) (.node (.node (.node (.node (.node (.leaf (.slS t)) (J 0)) (J 1)) (J 2)) (J 3)) (J 4))) (.node (.node (.node (.node (.node (.node (.leaf (.agg [.int .i64 l, .int .i64 c])) (J 0)) (J 1)) (J 2)) (J 3)) (J 4)) (J 5))), (OO 7)⟩ (by kernel_rfl) (by kernel_rfl) ?_
    repeat' (first
      | refine allProp_T ?_
      | exact trivial
      | (refine URun.id ?_; first
          | refine URun.nil ?_
          | refine URun.many tabs rfl rfl (by kernel_rfl) ?_ ?_
          | (refine URun.toCall 58 rfl ?_; first
            | refine URun.call tabs rfl rfl rfl rfl k58 rfl rfl ?_ rfl ?_)
          | refine URun.same tabs rfl rfl rfl ?_
          | refine URun.same2 tabs rfl rfl rfl ?_
          | refine URun.split tabs rfl rfl rfl rfl (fun h => ?_) (fun h => ?_))
      | (refine TRun.id ?_; first
          | refine TRun.nil ?_
          | refine TRun.many rfl rfl (by kernel_rfl) ?_ ?_
          | (refine TRun.toCall 58 rfl ?_; first
            | refine TRun.call rfl rfl rfl rfl k58 rfl rfl ?_ rfl ?_)
          | refine TRun.same rfl rfl rfl ?_
          | refine TRun.same2 rfl rfl rfl ?_
          | refine TRun.split rfl rfl rfl rfl (fun h => ?_) (fun h => ?_))
      | (refine HoldsT.id ?_; first
          | refine HoldsT.seq ?_
          | refine HoldsT.regionU ?_
          | refine HoldsT.drawn tabs ?_
          | refine HoldsT.yes rfl ?_
          | refine HoldsT.no rfl ?_
          | refine HoldsT.cond rfl (fun h => ?_) (fun h => ?_)
          | refine HoldsT.block ?_
          | refine HoldsT.ret ?_
          | refine HoldsT.skip ?_
          | refine HoldsT.exit ?_)
      | (refine okTr_intro ?_; kernel_rfl)
      | exact absurd rfl h
      | refine allProp_C ?_ ?_
      | refine And.intro ?_ ?_
      | omega
      | (show _ < List.length _; omega)
      | exact rowlen_intro rfl
      | exact lenEq_intro rfl
      | exact Nat.le_of_ble_eq_true rfl
      | (simp only [AV.rowlenD, AV.rowlen, AV.ncells, mulSz, toN, Option.map_some, Option.map_none, cutL, List.length_take, List.length_drop, List.length_append, List.length_cons, List.length_nil, List.length_set, Option.some.injEq, Int.reduceToNat] <;> omega))
    exact FinC.t (y := .tup [.agg [.int .i64 _, .nilsl, .nilsl], .agg [.int .i64 _, .int .i64 _], .bool _]) rfl rfl ⟨⟨trivial, trivial, trivial, trivial⟩, ⟨trivial, trivial, trivial⟩, trivial, trivial⟩ noLe
  | true =>
    rw [hp] at h k58
    obtain rfl : t = [] := h.resolve_left (by simp)
    refine Pure.ofT tab_ok Try.func60 rfl rfl [.cell 6 47, .cell 7 23, .tmp 8] rfl (by decide) rfl ⟨70, 7, (.node (.node (.node (.node (.node (.node (.node (.leaf (.slS ls)) (J 0)) (J 1)) (J 2)) (J 3)) (J 4)) (.node (.node (.node (.node (.node (.leaf (.slS [])) (J 0)) (J 1)) (J 2)) (J 3)) (J 4))) (.node (.node (.node (.node (.node (.node (.leaf (.agg [.int .i64 l, .int .i64 c])) (J 0)) (J 1)) (J 2)) (J 3)) (J 4)) (J 5))), (OO 7)⟩ (by kernel_rfl) (by kernel_rfl) ?_
    repeat' (first
      | refine allProp_T ?_
      | exact trivial
      | (refine URun.id ?_; first
          | refine URun.nil ?_
          | refine URun.many tabs rfl rfl (by kernel_rfl) ?_ ?_
          | (refine URun.toCall 58 rfl ?_; first
            | refine URun.call tabs rfl rfl rfl rfl k58 rfl rfl ?_ rfl ?_)
          | refine URun.same tabs rfl rfl rfl ?_
          | refine URun.same2 tabs rfl rfl rfl ?_
          | refine URun.split tabs rfl rfl rfl rfl (fun h => ?_) (fun h => ?_))
      | (refine TRun.id ?_; first
          | refine TRun.nil ?_
          | refine TRun.many rfl rfl (by kernel_rfl) ?_ ?_
          | (refine TRun.toCall 58 rfl ?_; first
            | refine TRun.call rfl rfl rfl rfl k58 rfl rfl ?_ rfl ?_)
          | refine TRun.same rfl rfl rfl ?_
          | refine TRun.same2 rfl rfl rfl ?_
          | refine TRun.split rfl rfl rfl rfl (fun h => ?_) (fun h => ?_))
      | (refine HoldsT.id ?_; first
          | refine HoldsT.seq ?_
          | refine HoldsT.regionU ?_
          | refine HoldsT.drawn tabs ?_
          | refine HoldsT.yes rfl ?_
          | refine HoldsT.no rfl ?_
          | refine HoldsT.cond rfl (fun h => ?_) (fun h => ?_)
          | refine HoldsT.block ?_
          | refine HoldsT.ret ?_
          | refine HoldsT.skip ?_
          | refine HoldsT.exit ?_)
      | (refine okTr_intro ?_; kernel_rfl)
      | exact absurd rfl h
      | refine allProp_C ?_ ?_
      | refine And.intro ?_ ?_
      | omega
      | (show _ < List.length _; omega)
      | exact rowlen_intro rfl
      | exact lenEq_intro rfl
      | exact Nat.le_of_ble_eq_true rfl
      | (simp only [AV.rowlenD, AV.rowlen, AV.ncells, mulSz, toN, Option.map_some, Option.map_none, cutL, List.length_take, List.length_drop, List.length_append, List.length_cons, List.length_nil, List.length_set, Option.some.injEq, Int.reduceToNat] <;> omega))
    exact FinC.t (y := .tup [.agg [.int .i64 _, .nilsl, .nilsl], .agg [.int .i64 _, .int .i64 _], .bool _]) rfl rfl ⟨⟨trivial, trivial, trivial, trivial⟩, ⟨trivial, trivial, trivial⟩, trivial, trivial⟩ noLe

set_option maxRecDepth 10000 in
set_option maxHeartbeats 8000000 in
theorem p60 (ls t : List (List UInt8)) (l c : Int) (hl : ls.length ≤ 8796093022208) (ht : t.length ≤ 1000000000) (hB : ∀ n : Nat, (ls.getD n []).length ≤ 140737488355328) (hT : ∀ n : Nat, (t.getD n []).length ≤ 140737488355328) (h : placeL ls l c = true) (h0 : 0 < (t.length : Int)) :
    Pure Try.prog 60 [.slS ls, .agg [.int .i64 l, .int .i64 c], .slS t] (TyR.av ⟨true, l, midL ls l 1, writeL (ls.getD l.toNat []) c t, l + ((t.length : Int) - 1), ((t.set 0 (cutL (ls.getD l.toNat []) none (some c.toNat) ++ t.getD 0 [])).getD ((t.length : Int) - 1).toNat []).length⟩) := by
  have k58 := p58 ls l c
  rw [h] at k58
  obtain ⟨hq1, hq2, hq3, hq4⟩ := of_decide_eq_true h
  have hb := hB l.toNat
  have ht0 := hT 0
  have hb2 : ((t.set 0 (cutL (ls.getD l.toNat []) none (some c.toNat) ++ t.getD 0 [])).getD ((t.length : Int) - 1).toNat []).length ≤ 281474976710656 :=
    getD_set_le (fun n => by have := hT n; omega) (by have := cutL_le (ls.getD l.toNat []) none (some c.toNat); rw [List.length_append]; omega)
  have hb3 : (cutL (ls.getD l.toNat []) (some c.toNat) none).length ≤ 140737488355328 := by have := cutL_le (ls.getD l.toNat []) (some c.toNat) none; omega
  have o66 := own66 t (by omega)
  refine Pure.ofT tab_ok Try.func60 rfl rfl [.cell 6 47, .cell 7 23, .tmp 8] rfl (by decide) rfl ⟨70, 7, (.node (.node (.node (.node (.node (.node (.node (.leaf (.slS ls)) (J 0)) (J 1)) (J 2)) (J 3)) (J 4)) (.node (.node (.node (.node (.node (.leaf (.slS t)) (J 0)) (J 1)) (J 2)) (J 3)) (J 4))) (.node (.node (.node (.node (.node (.node (.leaf (.agg [.int .i64 l, .int .i64 c])) (J 0)) (J 1)) (J 2)) (J 3)) (J 4)) (J 5))), (OO 7)⟩ (by kernel_rfl) (by kernel_rfl) ?_
  repeat' (first
    | refine allProp_T ?_
    | exact trivial
    | (refine URun.id ?_; first
        | refine URun.nil ?_
        | refine URun.many tabs rfl rfl (by kernel_rfl) ?_ ?_
        | (refine URun.toCall 58 rfl ?_; first
          | refine URun.call tabs rfl rfl rfl rfl k58 rfl rfl ?_ rfl ?_)
        | (refine URun.toCall 80 rfl ?_; first
          | refine URun.call tabs rfl rfl rfl rfl (p80 ls _ l 1 hl hq1 (by omega) (by omega)) rfl rfl ?_ rfl ?_)
        | (refine URun.toCall 66 rfl ?_; refine URun.own rfl rfl rfl rfl o66 rfl rfl ?_ rfl (by kernel_rfl) rfl rfl ?_)
        | refine URun.same tabs rfl rfl rfl ?_
        | refine URun.same2 tabs rfl rfl rfl ?_
        | refine URun.yes tabs rfl rfl (by omega) rfl ?_
        | refine URun.no tabs rfl rfl (by omega) rfl ?_
        | refine URun.split tabs rfl rfl rfl rfl (fun h => ?_) (fun h => ?_))
    | (refine TRun.id ?_; first
        | refine TRun.nil ?_
        | refine TRun.many rfl rfl (by kernel_rfl) ?_ ?_
        | (refine TRun.toCall 58 rfl ?_; first
          | refine TRun.call rfl rfl rfl rfl k58 rfl rfl ?_ rfl ?_)
        | (refine TRun.toCall 80 rfl ?_; first
          | refine TRun.call rfl rfl rfl rfl (p80 ls _ l 1 hl hq1 (by omega) (by omega)) rfl rfl ?_ rfl ?_)
        | refine TRun.same rfl rfl rfl ?_
        | refine TRun.same2 rfl rfl rfl ?_
        | refine TRun.yes rfl rfl (by omega) rfl ?_
        | refine TRun.no rfl rfl (by omega) rfl ?_
        | refine TRun.split rfl rfl rfl rfl (fun h => ?_) (fun h => ?_))
    | (refine HoldsT.id ?_; first
        | refine HoldsT.seq ?_
        | refine HoldsT.regionU ?_
        | refine HoldsT.drawn tabs ?_
        | refine HoldsT.yes rfl ?_
        | refine HoldsT.no rfl ?_
        | refine HoldsT.cond rfl (fun h => ?_) (fun h => ?_)
        | refine HoldsT.block ?_
        | refine HoldsT.ret ?_
        | refine HoldsT.skip ?_
        | refine HoldsT.exit ?_)
    | (refine okTr_intro ?_; kernel_rfl)
    | exact absurd rfl h
    | exact Nat.le_trans (Nat.add_le_add hb2 hb3) (by decide)
    | refine allProp_C ?_ ?_
    | refine And.intro ?_ ?_
    | omega
    | (show _ < List.length _; omega)
    | exact rowlen_intro rfl
    | exact lenEq_intro rfl
    | exact Nat.le_of_ble_eq_true rfl
    | (simp only [AV.rowlenD, AV.rowlen, AV.ncells, mulSz, toN, Option.map_some, Option.map_none, cutL, List.length_take, List.length_drop, List.length_append, List.length_cons, List.length_nil, List.length_set, Option.some.injEq, Int.reduceToNat] <;> omega))
  all_goals first | exact FinC.te (y := .tup [.agg [.int .i64 _, .slS _, .slS _], .agg [.int .i64 _, .int .i64 _], .bool _]) rfl rfl ⟨⟨trivial, trivial, trivial, trivial⟩, ⟨trivial, trivial, trivial⟩, trivial, trivial⟩ rfl | trace_state

theorem mid_one {ls : List (List UInt8)} {l : Int} (h0 : 0 ≤ l) (h1 : l < ls.length) : midL ls l 1 = [ls.getD l.toNat []] := by
  unfold midL cutL
  simp only
  have hlt : l.toNat < ls.length := by omega
  rw [show (l + 1).toNat = l.toNat + 1 by omega, List.take_add_one, List.getElem?_eq_getElem hlt, List.drop_append]
  have : (ls.take l.toNat).length = l.toNat := by rw [List.length_take]; omega
  rw [List.drop_eq_nil_of_le (by omega)]
  simp [this, show l.toNat < ls.length by omega]

section
variable (ls : List (List UInt8)) (l c : Int) (hl : ls.length ≤ 1000000000) (hB : ∀ n : Nat, (ls.getD n []).length ≤ 140737488355328) (h : placeL ls l c = true)
 include hl hB h
theorem p60a (k : UInt8) : Pure Try.prog 60 [.slS ls, .agg [.int .i64 l, .int .i64 c], .slS [[k]]] (TyR.av ⟨true, l, [ls.getD l.toNat []], [(ls.getD l.toNat []).take c.toNat ++ k :: (ls.getD l.toNat []).drop c.toNat], l, c + 1⟩) := by
  obtain ⟨hq1, hq2, hq3, hq4⟩ := of_decide_eq_true h
  have := p60 ls [[k]] l c (by omega) (by simp) hB (fun n => by match n with | 0 => simp | n + 1 => simp) h (by simp)
  rw [mid_one hq1 hq2] at this
  have e1 : writeL (ls.getD l.toNat []) c [[k]] = [(ls.getD l.toNat []).take c.toNat ++ k :: (ls.getD l.toNat []).drop c.toNat] := by
    simp [writeL, cutL]
  have e2 : ((([[k]].set 0 (cutL (ls.getD l.toNat []) none (some c.toNat) ++ [[k]].getD 0 [])).getD (([[k]].length : Int) - 1).toNat []).length : Int) = c + 1 := by
    rw [List.getD_eq_getElem?_getD] at hq4
    simp [cutL]; omega
  rw [e1, e2] at this
  simpa using this
theorem p60b : Pure Try.prog 60 [.slS ls, .agg [.int .i64 l, .int .i64 c], .slS [[], []]] (TyR.av ⟨true, l, [ls.getD l.toNat []], [(ls.getD l.toNat []).take c.toNat, (ls.getD l.toNat []).drop c.toNat], l + 1, 0⟩) := by
  obtain ⟨hq1, hq2, hq3, hq4⟩ := of_decide_eq_true h
  have := p60 ls [[], []] l c (by omega) (by simp) hB (fun n => by match n with | 0 => simp | 1 => simp | n + 2 => simp) h (by simp)
  rw [mid_one hq1 hq2] at this
  have e1 : writeL (ls.getD l.toNat []) c [[], []] = [(ls.getD l.toNat []).take c.toNat, (ls.getD l.toNat []).drop c.toNat] := by
    simp [writeL, cutL]
  have e2 : (((([[], []] : List (List UInt8)).set 0 (cutL (ls.getD l.toNat []) none (some c.toNat) ++ ([[], []] : List (List UInt8)).getD 0 [])).getD ((([[], []] : List (List UInt8)).length : Int) - 1).toNat []).length : Int) = 0 := by
    simp [cutL]
  rw [e1, e2] at this
  simpa using this
end

theorem over_eq (s : List UInt8) (c : Int) (x : UInt8) (h0 : 0 ≤ c) : cutL s none (some c.toNat) ++ [x] ++ cutL s (some (min (c + 1) (s.length : Int)).toNat) none = s.take c.toNat ++ x :: s.drop (c.toNat + 1) := by
  simp only [cutL]
  rcases Int.le_total (c + 1) s.length with h | h
  · rw [Int.min_eq_left h, show (c + 1).toNat = c.toNat + 1 by omega, List.append_assoc]; rfl
  · rw [Int.min_eq_right h, List.drop_eq_nil_of_le (by omega), List.drop_eq_nil_of_le (by omega)]; simp

theorem over2 (s : List UInt8) (c : Int) (x : UInt8) : cutL s none (some c.toNat) ++ [x] ++ cutL (cutL s (some c.toNat) none) (some 1) none = s.take c.toNat ++ x :: s.drop (c.toNat + 1) := by
  simp [cutL, List.drop_drop]
theorem over3 (s : List UInt8) (c : Int) (x : UInt8) (h : ¬ cutL s (some c.toNat) none ≠ (ByteArray.mk #[]).data.toList) : cutL s none (some c.toNat) ++ [x] ++ cutL s (some c.toNat) none = s.take c.toNat ++ x :: s.drop (c.toNat + 1) := by
  have h' : s.drop c.toNat = [] := by simpa [cutL] using h
  have h2 : s.drop (c.toNat + 1) = [] := by rw [← List.drop_drop, h']; rfl
  simp [cutL, h', h2]
theorem ins_eq (s : List UInt8) (c : Int) (x : UInt8) : cutL s none (some c.toNat) ++ [x] ++ cutL s (some c.toNat) none = s.take c.toNat ++ x :: s.drop c.toNat := by
  simp [cutL]
theorem ne_len {l : List UInt8} (h : l ≠ (ByteArray.mk #[]).data.toList) : 1 ≤ (l.length : Int) := by
  cases l with
  | nil => exact absurd rfl h
  | cons => simp; omega

/-- What a key does. -/
def typeL (ls : List (List UInt8)) (l c fl fc m k : Int) : TyR :=
  if placeL ls l c = true ∧ (m = 1 ∨ m = 2) then
    if letterK k = true then
      if m = 1 then ⟨true, l, [ls.getD l.toNat []], [(ls.getD l.toNat []).take c.toNat ++ UInt8.ofNat k.toNat :: (ls.getD l.toNat []).drop c.toNat], l, c + 1⟩
      else ⟨true, l, [ls.getD l.toNat []], [(ls.getD l.toNat []).take c.toNat ++ UInt8.ofNat k.toNat :: (ls.getD l.toNat []).drop (c.toNat + 1)], l, c + 1⟩
    else if k = 13 ∨ k = 10 then ⟨true, l, [ls.getD l.toNat []], [(ls.getD l.toNat []).take c.toNat, (ls.getD l.toNat []).drop c.toNat], l + 1, 0⟩
    else if (k = 8 ∨ k = 127) ∧ m = 1 ∧ c ≠ 0 ∧ ¬ (l = fl ∧ c ≤ fc) then ⟨true, l, [ls.getD l.toNat []], [(ls.getD l.toNat []).take (c - 1).toNat ++ (ls.getD l.toNat []).drop c.toNat], l, c - 1⟩
    else tyNo
  else tyNo

set_option maxRecDepth 10000 in
set_option maxHeartbeats 8000000 in
theorem p35 (ls : List (List UInt8)) (l c fl fc m k : Int) (hl : ls.length ≤ 1000000000) (hB : ∀ n : Nat, (ls.getD n []).length ≤ 140737488355328) (hk : inK .u8 k) : Pure Try.prog 35 [.slS ls, .agg [.int .i64 l, .int .i64 c], .agg [.int .i64 fl, .int .i64 fc], .int .i64 m, .int .u8 k] (typeL ls l c fl fc m k).av := by
  have hb := hB l.toNat
  have k58 := p58 ls l c
  have k59 := p59 k
  cases hp : placeL ls l c with
  | false =>
    rw [hp] at k58
    have e : typeL ls l c fl fc m k = tyNo := by unfold typeL; rw [hp]; simp
    rw [e]
    refine Pure.ofT tab_ok Try.func35 rfl rfl [.cell 10 47, .cell 11 23, .tmp 12] rfl (by decide) rfl ⟨146, 8, (.node (.node (.node (.node (.node (.node (.node (.node (.leaf (.slS ls)) (J 0)) (J 1)) (J 2)) (J 3)) (J 4)) (.node (.node (.node (.node (.node (.leaf (.int .u8 k)) (J 0)) (J 1)) (J 2)) (J 3)) (J 4))) (.node (.node (.node (.node (.node (.node (.leaf (.agg [.int .i64 fl, .int .i64 fc])) (J 0)) (J 1)) (J 2)) (J 3)) (J 4)) (J 5))) (.node (.node (.node (.node (.node (.node (.node (.leaf (.agg [.int .i64 l, .int .i64 c])) (J 0)) (J 1)) (J 2)) (J 3)) (J 4)) (J 5)) (.node (.node (.node (.node (.node (.node (.leaf (.int .i64 m)) (J 0)) (J 1)) (J 2)) (J 3)) (J 4)) (J 5)))), (OO 8)⟩ (by kernel_rfl) (by kernel_rfl) ?_
    repeat' (first
      | refine allProp_T ?_
      | exact trivial
      | (refine URun.id ?_; first
          | refine URun.nil ?_
          | refine URun.many tabs rfl rfl (by kernel_rfl) ?_ ?_
          | (refine URun.toCall 58 rfl ?_; first
            | refine URun.call tabs rfl rfl rfl rfl k58 rfl rfl ?_ rfl ?_)
          | refine URun.same tabs rfl rfl rfl ?_
          | refine URun.same2 tabs rfl rfl rfl ?_
          | refine URun.yes tabs rfl rfl (by omega) rfl ?_
          | refine URun.no tabs rfl rfl (by omega) rfl ?_
          | refine URun.split tabs rfl rfl rfl rfl (fun h => ?_) (fun h => ?_))
      | (refine TRun.id ?_; first
          | refine TRun.nil ?_
          | refine TRun.many rfl rfl (by kernel_rfl) ?_ ?_
          | (refine TRun.toCall 58 rfl ?_; first
            | refine TRun.call rfl rfl rfl rfl k58 rfl rfl ?_ rfl ?_)
          | refine TRun.same rfl rfl rfl ?_
          | refine TRun.same2 rfl rfl rfl ?_
          | refine TRun.yes rfl rfl (by omega) rfl ?_
          | refine TRun.no rfl rfl (by omega) rfl ?_
          | refine TRun.split rfl rfl rfl rfl (fun h => ?_) (fun h => ?_))
      | (refine HoldsT.id ?_; first
          | refine HoldsT.seq ?_
          | refine HoldsT.regionU ?_
          | refine HoldsT.drawn tabs ?_
          | refine HoldsT.yes rfl ?_
          | refine HoldsT.no rfl ?_
          | refine HoldsT.cond rfl (fun h => ?_) (fun h => ?_)
          | refine HoldsT.block ?_
          | refine HoldsT.ret ?_
          | refine HoldsT.skip ?_
          | refine HoldsT.exit ?_)
      | (refine okTr_intro ?_; kernel_rfl)
      | exact absurd rfl h
      | exact ne_len (by assumption)
      | refine allProp_C ?_ ?_
      | refine And.intro ?_ ?_
      | omega
      | (show _ < List.length _; omega)
      | exact rowlen_intro rfl
      | exact lenEq_intro rfl
      | exact Nat.le_of_ble_eq_true rfl
      | (simp only [AV.rowlenD, AV.rowlen, AV.ncells, mulSz, toN, Option.map_some, Option.map_none, cutL, List.length_take, List.length_drop, List.length_append, List.length_cons, List.length_nil, List.length_set, Option.some.injEq, Int.reduceToNat] <;> omega))
    exact FinC.t (y := .tup [.agg [.int .i64 _, .nilsl, .nilsl], .agg [.int .i64 _, .int .i64 _], .bool _]) rfl rfl ⟨⟨trivial, trivial, trivial, trivial⟩, ⟨trivial, trivial, trivial⟩, trivial, trivial⟩ noLe
  | true =>
    rw [hp] at k58
    obtain ⟨hq1, hq2, hq3, hq4⟩ := of_decide_eq_true hp
    cases hlt : letterK k with
    | true =>
      rw [hlt] at k59
      refine Pure.ofT tab_ok Try.func35 rfl rfl [.cell 10 47, .cell 11 23, .tmp 12] rfl (by decide) rfl ⟨146, 8, (.node (.node (.node (.node (.node (.node (.node (.node (.leaf (.slS ls)) (J 0)) (J 1)) (J 2)) (J 3)) (J 4)) (.node (.node (.node (.node (.node (.leaf (.int .u8 k)) (J 0)) (J 1)) (J 2)) (J 3)) (J 4))) (.node (.node (.node (.node (.node (.node (.leaf (.agg [.int .i64 fl, .int .i64 fc])) (J 0)) (J 1)) (J 2)) (J 3)) (J 4)) (J 5))) (.node (.node (.node (.node (.node (.node (.node (.leaf (.agg [.int .i64 l, .int .i64 c])) (J 0)) (J 1)) (J 2)) (J 3)) (J 4)) (J 5)) (.node (.node (.node (.node (.node (.node (.leaf (.int .i64 m)) (J 0)) (J 1)) (J 2)) (J 3)) (J 4)) (J 5)))), (OO 8)⟩ (by kernel_rfl) (by kernel_rfl) ?_
      repeat' (first
        | refine allProp_T ?_
        | exact trivial
        | (refine URun.id ?_; first
            | refine URun.nil ?_
            | refine URun.many tabs rfl rfl (by kernel_rfl) ?_ ?_
            | (refine URun.toCall 58 rfl ?_; first
              | refine URun.call tabs rfl rfl rfl rfl k58 rfl rfl ?_ rfl ?_)
            | (refine URun.toCall 59 rfl ?_; first
              | refine URun.call tabs rfl rfl rfl rfl k59 rfl rfl ?_ rfl ?_)
            | (refine URun.toCall 60 rfl ?_; first
              | refine URun.call tabs rfl rfl rfl rfl (p60a ls l c hl hB hp (UInt8.ofNat k.toNat)) rfl rfl ?_ rfl ?_
              | refine URun.call tabs rfl rfl rfl rfl (p60b ls l c hl hB hp) rfl rfl ?_ rfl ?_)
            | (refine URun.toCall 61 rfl ?_; first
              | refine URun.call tabs rfl rfl rfl rfl (p61 ls _ l c hq1 hq2) rfl rfl ?_ rfl ?_)
            | refine URun.same tabs rfl rfl rfl ?_
            | refine URun.same2 tabs rfl rfl rfl ?_
            | refine URun.yes tabs rfl rfl (by omega) rfl ?_
            | refine URun.no tabs rfl rfl (by omega) rfl ?_
            | refine URun.split tabs rfl rfl rfl rfl (fun h => ?_) (fun h => ?_))
        | (refine TRun.id ?_; first
            | refine TRun.nil ?_
            | refine TRun.many rfl rfl (by kernel_rfl) ?_ ?_
            | (refine TRun.toCall 58 rfl ?_; first
              | refine TRun.call rfl rfl rfl rfl k58 rfl rfl ?_ rfl ?_)
            | (refine TRun.toCall 59 rfl ?_; first
              | refine TRun.call rfl rfl rfl rfl k59 rfl rfl ?_ rfl ?_)
            | (refine TRun.toCall 60 rfl ?_; first
              | refine TRun.call rfl rfl rfl rfl (p60a ls l c hl hB hp (UInt8.ofNat k.toNat)) rfl rfl ?_ rfl ?_
              | refine TRun.call rfl rfl rfl rfl (p60b ls l c hl hB hp) rfl rfl ?_ rfl ?_)
            | (refine TRun.toCall 61 rfl ?_; first
              | refine TRun.call rfl rfl rfl rfl (p61 ls _ l c hq1 hq2) rfl rfl ?_ rfl ?_)
            | refine TRun.same rfl rfl rfl ?_
            | refine TRun.same2 rfl rfl rfl ?_
            | refine TRun.yes rfl rfl (by omega) rfl ?_
            | refine TRun.no rfl rfl (by omega) rfl ?_
            | refine TRun.split rfl rfl rfl rfl (fun h => ?_) (fun h => ?_))
        | (refine HoldsT.id ?_; first
            | refine HoldsT.seq ?_
            | refine HoldsT.regionU ?_
            | refine HoldsT.drawn tabs ?_
            | refine HoldsT.yes rfl ?_
            | refine HoldsT.no rfl ?_
            | refine HoldsT.cond rfl (fun h => ?_) (fun h => ?_)
            | refine HoldsT.block ?_
            | refine HoldsT.ret ?_
            | refine HoldsT.skip ?_
            | refine HoldsT.exit ?_)
        | (refine okTr_intro ?_; kernel_rfl)
        | exact absurd rfl h
        | exact ne_len (by assumption)
        | refine allProp_C ?_ ?_
        | refine And.intro ?_ ?_
        | omega
        | (show _ < List.length _; omega)
        | exact rowlen_intro rfl
        | exact lenEq_intro rfl
        | exact Nat.le_of_ble_eq_true rfl
        | (simp only [AV.rowlenD, AV.rowlen, AV.ncells, mulSz, toN, Option.map_some, Option.map_none, cutL, List.length_take, List.length_drop, List.length_append, List.length_cons, List.length_nil, List.length_set, Option.some.injEq, Int.reduceToNat] <;> omega))
      all_goals first | refine FinC.t (y := .tup [.agg [.int .i64 _, .slS _, .slS _], .agg [.int .i64 _, .int .i64 _], .bool _]) rfl rfl ⟨⟨trivial, ⟨rfl, trivial⟩, ⟨rfl, trivial⟩, trivial⟩, ⟨trivial, trivial, trivial⟩, trivial, trivial⟩ (AVle.rfl' ?_) | refine FinC.t (y := .tup [.agg [.int .i64 _, .slS _, .slS _], .agg [.int .i64 _, .int .i64 _], .bool _]) rfl rfl ⟨⟨trivial, trivial, trivial, trivial⟩, ⟨trivial, trivial, trivial⟩, trivial, trivial⟩ (AVle.rfl' ?_) | refine FinC.t (y := .tup [.agg [.int .i64 _, .slS _, .slS _], .agg [.int .i64 _, .int .i64 _], .bool _]) rfl rfl ⟨⟨trivial, ⟨rfl, trivial⟩, trivial, trivial⟩, ⟨trivial, trivial, trivial⟩, trivial, trivial⟩ (AVle.rfl' ?_) | refine FinC.t (y := .tup [.agg [.int .i64 _, .nilsl, .nilsl], .agg [.int .i64 _, .int .i64 _], .bool _]) rfl rfl ⟨⟨trivial, trivial, trivial, trivial⟩, ⟨trivial, trivial, trivial⟩, trivial, trivial⟩ (AVle.trans noLe (AVle.rfl' ?_))
      all_goals try (unfold typeL; simp only [hp, hlt, true_and, if_true, if_false, Bool.false_eq_true]; (repeat' split) <;> first | rfl | (exfalso; omega) | exact congrArg (fun x => TyR.av ⟨true, l, [ls.getD l.toNat []], [x], l, c + 1⟩) (over_eq _ c _ hq3))

    | false =>
      rw [hlt] at k59
      refine Pure.ofT tab_ok Try.func35 rfl rfl [.cell 10 47, .cell 11 23, .tmp 12] rfl (by decide) rfl ⟨146, 8, (.node (.node (.node (.node (.node (.node (.node (.node (.leaf (.slS ls)) (J 0)) (J 1)) (J 2)) (J 3)) (J 4)) (.node (.node (.node (.node (.node (.leaf (.int .u8 k)) (J 0)) (J 1)) (J 2)) (J 3)) (J 4))) (.node (.node (.node (.node (.node (.node (.leaf (.agg [.int .i64 fl, .int .i64 fc])) (J 0)) (J 1)) (J 2)) (J 3)) (J 4)) (J 5))) (.node (.node (.node (.node (.node (.node (.node (.leaf (.agg [.int .i64 l, .int .i64 c])) (J 0)) (J 1)) (J 2)) (J 3)) (J 4)) (J 5)) (.node (.node (.node (.node (.node (.node (.leaf (.int .i64 m)) (J 0)) (J 1)) (J 2)) (J 3)) (J 4)) (J 5)))), (OO 8)⟩ (by kernel_rfl) (by kernel_rfl) ?_
      repeat' (first
        | refine allProp_T ?_
        | exact trivial
        | (refine URun.id ?_; first
            | refine URun.nil ?_
            | refine URun.many tabs rfl rfl (by kernel_rfl) ?_ ?_
            | (refine URun.toCall 58 rfl ?_; first
              | refine URun.call tabs rfl rfl rfl rfl k58 rfl rfl ?_ rfl ?_)
            | (refine URun.toCall 59 rfl ?_; first
              | refine URun.call tabs rfl rfl rfl rfl k59 rfl rfl ?_ rfl ?_)
            | (refine URun.toCall 60 rfl ?_; first
              | refine URun.call tabs rfl rfl rfl rfl (p60a ls l c hl hB hp (UInt8.ofNat k.toNat)) rfl rfl ?_ rfl ?_
              | refine URun.call tabs rfl rfl rfl rfl (p60b ls l c hl hB hp) rfl rfl ?_ rfl ?_)
            | (refine URun.toCall 61 rfl ?_; first
              | refine URun.call tabs rfl rfl rfl rfl (p61 ls _ l c hq1 hq2) rfl rfl ?_ rfl ?_)
            | refine URun.same tabs rfl rfl rfl ?_
            | refine URun.same2 tabs rfl rfl rfl ?_
            | refine URun.yes tabs rfl rfl (by omega) rfl ?_
            | refine URun.no tabs rfl rfl (by omega) rfl ?_
            | refine URun.split tabs rfl rfl rfl rfl (fun h => ?_) (fun h => ?_))
        | (refine TRun.id ?_; first
            | refine TRun.nil ?_
            | refine TRun.many rfl rfl (by kernel_rfl) ?_ ?_
            | (refine TRun.toCall 58 rfl ?_; first
              | refine TRun.call rfl rfl rfl rfl k58 rfl rfl ?_ rfl ?_)
            | (refine TRun.toCall 59 rfl ?_; first
              | refine TRun.call rfl rfl rfl rfl k59 rfl rfl ?_ rfl ?_)
            | (refine TRun.toCall 60 rfl ?_; first
              | refine TRun.call rfl rfl rfl rfl (p60a ls l c hl hB hp (UInt8.ofNat k.toNat)) rfl rfl ?_ rfl ?_
              | refine TRun.call rfl rfl rfl rfl (p60b ls l c hl hB hp) rfl rfl ?_ rfl ?_)
            | (refine TRun.toCall 61 rfl ?_; first
              | refine TRun.call rfl rfl rfl rfl (p61 ls _ l c hq1 hq2) rfl rfl ?_ rfl ?_)
            | refine TRun.same rfl rfl rfl ?_
            | refine TRun.same2 rfl rfl rfl ?_
            | refine TRun.yes rfl rfl (by omega) rfl ?_
            | refine TRun.no rfl rfl (by omega) rfl ?_
            | refine TRun.split rfl rfl rfl rfl (fun h => ?_) (fun h => ?_))
        | (refine HoldsT.id ?_; first
            | refine HoldsT.seq ?_
            | refine HoldsT.regionU ?_
            | refine HoldsT.drawn tabs ?_
            | refine HoldsT.yes rfl ?_
            | refine HoldsT.no rfl ?_
            | refine HoldsT.cond rfl (fun h => ?_) (fun h => ?_)
            | refine HoldsT.block ?_
            | refine HoldsT.ret ?_
            | refine HoldsT.skip ?_
            | refine HoldsT.exit ?_)
        | (refine okTr_intro ?_; kernel_rfl)
        | exact absurd rfl h
        | exact ne_len (by assumption)
        | refine allProp_C ?_ ?_
        | refine And.intro ?_ ?_
        | omega
        | (show _ < List.length _; omega)
        | exact rowlen_intro rfl
        | exact lenEq_intro rfl
        | exact Nat.le_of_ble_eq_true rfl
        | (simp only [AV.rowlenD, AV.rowlen, AV.ncells, mulSz, toN, Option.map_some, Option.map_none, cutL, List.length_take, List.length_drop, List.length_append, List.length_cons, List.length_nil, List.length_set, Option.some.injEq, Int.reduceToNat] <;> omega))
      all_goals first | refine FinC.t (y := .tup [.agg [.int .i64 _, .slS _, .slS _], .agg [.int .i64 _, .int .i64 _], .bool _]) rfl rfl ⟨⟨trivial, ⟨rfl, trivial⟩, ⟨rfl, trivial⟩, trivial⟩, ⟨trivial, trivial, trivial⟩, trivial, trivial⟩ (AVle.rfl' ?_) | refine FinC.t (y := .tup [.agg [.int .i64 _, .slS _, .slS _], .agg [.int .i64 _, .int .i64 _], .bool _]) rfl rfl ⟨⟨trivial, trivial, trivial, trivial⟩, ⟨trivial, trivial, trivial⟩, trivial, trivial⟩ (AVle.rfl' ?_) | refine FinC.t (y := .tup [.agg [.int .i64 _, .slS _, .slS _], .agg [.int .i64 _, .int .i64 _], .bool _]) rfl rfl ⟨⟨trivial, ⟨rfl, trivial⟩, trivial, trivial⟩, ⟨trivial, trivial, trivial⟩, trivial, trivial⟩ (AVle.rfl' ?_) | refine FinC.t (y := .tup [.agg [.int .i64 _, .nilsl, .nilsl], .agg [.int .i64 _, .int .i64 _], .bool _]) rfl rfl ⟨⟨trivial, trivial, trivial, trivial⟩, ⟨trivial, trivial, trivial⟩, trivial, trivial⟩ (AVle.trans noLe (AVle.rfl' ?_))
      all_goals try (unfold typeL; simp only [hp, hlt, true_and, if_true, if_false, Bool.false_eq_true]; (repeat' split) <;> first | rfl | (exfalso; omega) | exact congrArg (fun x => TyR.av ⟨true, l, [ls.getD l.toNat []], [x], l, c + 1⟩) (over_eq _ c _ hq3))


set_option maxRecDepth 10000 in
set_option maxHeartbeats 8000000 in
theorem p36 (ls : List (List UInt8)) (l c fl fc m k : Int) (hl : ls.length ≤ 1000000000) (hB : ∀ n : Nat, (ls.getD n []).length ≤ 140737488355328) (hk : inK .u8 k) : Pure Try.prog 36 [.slS ls, .agg [.int .i64 l, .int .i64 c], .agg [.int .i64 fl, .int .i64 fc], .int .i64 m, .int .u8 k] (typeL ls l c fl fc m k).av := by
  have hb := hB l.toNat
  have k58 := p62 ls l c
  have k59 := p63 k
  cases hp : placeL ls l c with
  | false =>
    rw [hp] at k58
    have e : typeL ls l c fl fc m k = tyNo := by unfold typeL; rw [hp]; simp
    rw [e]
    refine Pure.ofT tab_ok Try.func36 rfl rfl [.cell 10 47, .cell 11 23, .tmp 12] rfl (by decide) rfl ⟨142, 8, (.node (.node (.node (.node (.node (.node (.node (.node (.leaf (.slS ls)) (J 0)) (J 1)) (J 2)) (J 3)) (J 4)) (.node (.node (.node (.node (.node (.leaf (.int .u8 k)) (J 0)) (J 1)) (J 2)) (J 3)) (J 4))) (.node (.node (.node (.node (.node (.node (.leaf (.agg [.int .i64 fl, .int .i64 fc])) (J 0)) (J 1)) (J 2)) (J 3)) (J 4)) (J 5))) (.node (.node (.node (.node (.node (.node (.node (.leaf (.agg [.int .i64 l, .int .i64 c])) (J 0)) (J 1)) (J 2)) (J 3)) (J 4)) (J 5)) (.node (.node (.node (.node (.node (.node (.leaf (.int .i64 m)) (J 0)) (J 1)) (J 2)) (J 3)) (J 4)) (J 5)))), (OO 8)⟩ (by kernel_rfl) (by kernel_rfl) ?_
    repeat' (first
      | refine allProp_T ?_
      | exact trivial
      | (refine URun.id ?_; first
          | refine URun.nil ?_
          | refine URun.many tabs rfl rfl (by kernel_rfl) ?_ ?_
          | (refine URun.toCall 62 rfl ?_; first
            | refine URun.call tabs rfl rfl rfl rfl k58 rfl rfl ?_ rfl ?_)
          | refine URun.same tabs rfl rfl rfl ?_
          | refine URun.same2 tabs rfl rfl rfl ?_
          | refine URun.yes tabs rfl rfl (by omega) rfl ?_
          | refine URun.no tabs rfl rfl (by omega) rfl ?_
          | refine URun.split tabs rfl rfl rfl rfl (fun h => ?_) (fun h => ?_))
      | (refine TRun.id ?_; first
          | refine TRun.nil ?_
          | refine TRun.many rfl rfl (by kernel_rfl) ?_ ?_
          | (refine TRun.toCall 62 rfl ?_; first
            | refine TRun.call rfl rfl rfl rfl k58 rfl rfl ?_ rfl ?_)
          | refine TRun.same rfl rfl rfl ?_
          | refine TRun.same2 rfl rfl rfl ?_
          | refine TRun.yes rfl rfl (by omega) rfl ?_
          | refine TRun.no rfl rfl (by omega) rfl ?_
          | refine TRun.split rfl rfl rfl rfl (fun h => ?_) (fun h => ?_))
      | (refine HoldsT.id ?_; first
          | refine HoldsT.seq ?_
          | refine HoldsT.regionU ?_
          | refine HoldsT.drawn tabs ?_
          | refine HoldsT.yes rfl ?_
          | refine HoldsT.no rfl ?_
          | refine HoldsT.cond rfl (fun h => ?_) (fun h => ?_)
          | refine HoldsT.block ?_
          | refine HoldsT.ret ?_
          | refine HoldsT.skip ?_
          | refine HoldsT.exit ?_)
      | (refine okTr_intro ?_; kernel_rfl)
      | exact absurd rfl h
      | exact ne_len (by assumption)
      | refine allProp_C ?_ ?_
      | refine And.intro ?_ ?_
      | omega
      | (show _ < List.length _; omega)
      | exact rowlen_intro rfl
      | exact lenEq_intro rfl
      | exact Nat.le_of_ble_eq_true rfl
      | (simp only [AV.rowlenD, AV.rowlen, AV.ncells, mulSz, toN, Option.map_some, Option.map_none, cutL, List.length_take, List.length_drop, List.length_append, List.length_cons, List.length_nil, List.length_set, Option.some.injEq, Int.reduceToNat] <;> omega))
    exact FinC.t (y := .tup [.agg [.int .i64 _, .nilsl, .nilsl], .agg [.int .i64 _, .int .i64 _], .bool _]) rfl rfl ⟨⟨trivial, trivial, trivial, trivial⟩, ⟨trivial, trivial, trivial⟩, trivial, trivial⟩ noLe
  | true =>
    rw [hp] at k58
    obtain ⟨hq1, hq2, hq3, hq4⟩ := of_decide_eq_true hp
    cases hlt : letterK k with
    | true =>
      rw [hlt] at k59
      refine Pure.ofT tab_ok Try.func36 rfl rfl [.cell 10 47, .cell 11 23, .tmp 12] rfl (by decide) rfl ⟨142, 8, (.node (.node (.node (.node (.node (.node (.node (.node (.leaf (.slS ls)) (J 0)) (J 1)) (J 2)) (J 3)) (J 4)) (.node (.node (.node (.node (.node (.leaf (.int .u8 k)) (J 0)) (J 1)) (J 2)) (J 3)) (J 4))) (.node (.node (.node (.node (.node (.node (.leaf (.agg [.int .i64 fl, .int .i64 fc])) (J 0)) (J 1)) (J 2)) (J 3)) (J 4)) (J 5))) (.node (.node (.node (.node (.node (.node (.node (.leaf (.agg [.int .i64 l, .int .i64 c])) (J 0)) (J 1)) (J 2)) (J 3)) (J 4)) (J 5)) (.node (.node (.node (.node (.node (.node (.leaf (.int .i64 m)) (J 0)) (J 1)) (J 2)) (J 3)) (J 4)) (J 5)))), (OO 8)⟩ (by kernel_rfl) (by kernel_rfl) ?_
      repeat' (first
        | refine allProp_T ?_
        | exact trivial
        | (refine URun.id ?_; first
            | refine URun.nil ?_
            | refine URun.many tabs rfl rfl (by kernel_rfl) ?_ ?_
            | (refine URun.toCall 62 rfl ?_; first
              | refine URun.call tabs rfl rfl rfl rfl k58 rfl rfl ?_ rfl ?_)
            | (refine URun.toCall 63 rfl ?_; first
              | refine URun.call tabs rfl rfl rfl rfl k59 rfl rfl ?_ rfl ?_)
            | refine URun.same tabs rfl rfl rfl ?_
            | refine URun.same2 tabs rfl rfl rfl ?_
            | refine URun.yes tabs rfl rfl (by omega) rfl ?_
            | refine URun.no tabs rfl rfl (by omega) rfl ?_
            | refine URun.split tabs rfl rfl rfl rfl (fun h => ?_) (fun h => ?_))
        | (refine TRun.id ?_; first
            | refine TRun.nil ?_
            | refine TRun.many rfl rfl (by kernel_rfl) ?_ ?_
            | (refine TRun.toCall 62 rfl ?_; first
              | refine TRun.call rfl rfl rfl rfl k58 rfl rfl ?_ rfl ?_)
            | (refine TRun.toCall 63 rfl ?_; first
              | refine TRun.call rfl rfl rfl rfl k59 rfl rfl ?_ rfl ?_)
            | refine TRun.same rfl rfl rfl ?_
            | refine TRun.same2 rfl rfl rfl ?_
            | refine TRun.yes rfl rfl (by omega) rfl ?_
            | refine TRun.no rfl rfl (by omega) rfl ?_
            | refine TRun.split rfl rfl rfl rfl (fun h => ?_) (fun h => ?_))
        | (refine HoldsT.id ?_; first
            | refine HoldsT.seq ?_
            | refine HoldsT.regionU ?_
            | refine HoldsT.drawn tabs ?_
            | refine HoldsT.yes rfl ?_
            | refine HoldsT.no rfl ?_
            | refine HoldsT.cond rfl (fun h => ?_) (fun h => ?_)
            | refine HoldsT.block ?_
            | refine HoldsT.ret ?_
            | refine HoldsT.skip ?_
            | refine HoldsT.exit ?_)
        | (refine okTr_intro ?_; kernel_rfl)
        | exact absurd rfl h
        | exact ne_len (by assumption)
        | refine allProp_C ?_ ?_
        | refine And.intro ?_ ?_
        | omega
        | (show _ < List.length _; omega)
        | exact rowlen_intro rfl
        | exact lenEq_intro rfl
        | exact Nat.le_of_ble_eq_true rfl
        | (simp only [AV.rowlenD, AV.rowlen, AV.ncells, mulSz, toN, Option.map_some, Option.map_none, cutL, List.length_take, List.length_drop, List.length_append, List.length_cons, List.length_nil, List.length_set, Option.some.injEq, Int.reduceToNat] <;> omega))
      all_goals first | refine FinC.t (y := .tup [.agg [.int .i64 _, .slS _, .slS _], .agg [.int .i64 _, .int .i64 _], .bool _]) rfl rfl ⟨⟨trivial, ⟨rfl, trivial⟩, ⟨rfl, trivial⟩, trivial⟩, ⟨trivial, trivial, trivial⟩, trivial, trivial⟩ (AVle.rfl' ?_) | refine FinC.t (y := .tup [.agg [.int .i64 _, .slS _, .slS _], .agg [.int .i64 _, .int .i64 _], .bool _]) rfl rfl ⟨⟨trivial, trivial, trivial, trivial⟩, ⟨trivial, trivial, trivial⟩, trivial, trivial⟩ (AVle.rfl' ?_) | refine FinC.t (y := .tup [.agg [.int .i64 _, .slS _, .slS _], .agg [.int .i64 _, .int .i64 _], .bool _]) rfl rfl ⟨⟨trivial, ⟨rfl, trivial⟩, trivial, trivial⟩, ⟨trivial, trivial, trivial⟩, trivial, trivial⟩ (AVle.rfl' ?_) | refine FinC.t (y := .tup [.agg [.int .i64 _, .nilsl, .nilsl], .agg [.int .i64 _, .int .i64 _], .bool _]) rfl rfl ⟨⟨trivial, trivial, trivial, trivial⟩, ⟨trivial, trivial, trivial⟩, trivial, trivial⟩ (AVle.trans noLe (AVle.rfl' ?_))
      all_goals try (unfold typeL; simp only [hp, hlt, true_and, if_true, if_false, Bool.false_eq_true]; (repeat' split) <;> first | rfl | (exfalso; omega) | exact congrArg (fun x => TyR.av ⟨true, l, [ls.getD l.toNat []], [x], l, c + 1⟩) (over2 _ c _) | exact congrArg (fun x => TyR.av ⟨true, l, [ls.getD l.toNat []], [x], l, c + 1⟩) (over3 _ c _ (by assumption)) | exact congrArg (fun x => TyR.av ⟨true, l, [ls.getD l.toNat []], [x], l, c + 1⟩) (ins_eq _ c _))

    | false =>
      rw [hlt] at k59
      refine Pure.ofT tab_ok Try.func36 rfl rfl [.cell 10 47, .cell 11 23, .tmp 12] rfl (by decide) rfl ⟨142, 8, (.node (.node (.node (.node (.node (.node (.node (.node (.leaf (.slS ls)) (J 0)) (J 1)) (J 2)) (J 3)) (J 4)) (.node (.node (.node (.node (.node (.leaf (.int .u8 k)) (J 0)) (J 1)) (J 2)) (J 3)) (J 4))) (.node (.node (.node (.node (.node (.node (.leaf (.agg [.int .i64 fl, .int .i64 fc])) (J 0)) (J 1)) (J 2)) (J 3)) (J 4)) (J 5))) (.node (.node (.node (.node (.node (.node (.node (.leaf (.agg [.int .i64 l, .int .i64 c])) (J 0)) (J 1)) (J 2)) (J 3)) (J 4)) (J 5)) (.node (.node (.node (.node (.node (.node (.leaf (.int .i64 m)) (J 0)) (J 1)) (J 2)) (J 3)) (J 4)) (J 5)))), (OO 8)⟩ (by kernel_rfl) (by kernel_rfl) ?_
      repeat' (first
        | refine allProp_T ?_
        | exact trivial
        | (refine URun.id ?_; first
            | refine URun.nil ?_
            | refine URun.many tabs rfl rfl (by kernel_rfl) ?_ ?_
            | (refine URun.toCall 62 rfl ?_; first
              | refine URun.call tabs rfl rfl rfl rfl k58 rfl rfl ?_ rfl ?_)
            | (refine URun.toCall 63 rfl ?_; first
              | refine URun.call tabs rfl rfl rfl rfl k59 rfl rfl ?_ rfl ?_)
            | refine URun.same tabs rfl rfl rfl ?_
            | refine URun.same2 tabs rfl rfl rfl ?_
            | refine URun.yes tabs rfl rfl (by omega) rfl ?_
            | refine URun.no tabs rfl rfl (by omega) rfl ?_
            | refine URun.split tabs rfl rfl rfl rfl (fun h => ?_) (fun h => ?_))
        | (refine TRun.id ?_; first
            | refine TRun.nil ?_
            | refine TRun.many rfl rfl (by kernel_rfl) ?_ ?_
            | (refine TRun.toCall 62 rfl ?_; first
              | refine TRun.call rfl rfl rfl rfl k58 rfl rfl ?_ rfl ?_)
            | (refine TRun.toCall 63 rfl ?_; first
              | refine TRun.call rfl rfl rfl rfl k59 rfl rfl ?_ rfl ?_)
            | refine TRun.same rfl rfl rfl ?_
            | refine TRun.same2 rfl rfl rfl ?_
            | refine TRun.yes rfl rfl (by omega) rfl ?_
            | refine TRun.no rfl rfl (by omega) rfl ?_
            | refine TRun.split rfl rfl rfl rfl (fun h => ?_) (fun h => ?_))
        | (refine HoldsT.id ?_; first
            | refine HoldsT.seq ?_
            | refine HoldsT.regionU ?_
            | refine HoldsT.drawn tabs ?_
            | refine HoldsT.yes rfl ?_
            | refine HoldsT.no rfl ?_
            | refine HoldsT.cond rfl (fun h => ?_) (fun h => ?_)
            | refine HoldsT.block ?_
            | refine HoldsT.ret ?_
            | refine HoldsT.skip ?_
            | refine HoldsT.exit ?_)
        | (refine okTr_intro ?_; kernel_rfl)
        | exact absurd rfl h
        | exact ne_len (by assumption)
        | refine allProp_C ?_ ?_
        | refine And.intro ?_ ?_
        | omega
        | (show _ < List.length _; omega)
        | exact rowlen_intro rfl
        | exact lenEq_intro rfl
        | exact Nat.le_of_ble_eq_true rfl
        | (simp only [AV.rowlenD, AV.rowlen, AV.ncells, mulSz, toN, Option.map_some, Option.map_none, cutL, List.length_take, List.length_drop, List.length_append, List.length_cons, List.length_nil, List.length_set, Option.some.injEq, Int.reduceToNat] <;> omega))
      all_goals first | refine FinC.t (y := .tup [.agg [.int .i64 _, .slS _, .slS _], .agg [.int .i64 _, .int .i64 _], .bool _]) rfl rfl ⟨⟨trivial, ⟨rfl, trivial⟩, ⟨rfl, trivial⟩, trivial⟩, ⟨trivial, trivial, trivial⟩, trivial, trivial⟩ (AVle.rfl' ?_) | refine FinC.t (y := .tup [.agg [.int .i64 _, .slS _, .slS _], .agg [.int .i64 _, .int .i64 _], .bool _]) rfl rfl ⟨⟨trivial, trivial, trivial, trivial⟩, ⟨trivial, trivial, trivial⟩, trivial, trivial⟩ (AVle.rfl' ?_) | refine FinC.t (y := .tup [.agg [.int .i64 _, .slS _, .slS _], .agg [.int .i64 _, .int .i64 _], .bool _]) rfl rfl ⟨⟨trivial, ⟨rfl, trivial⟩, trivial, trivial⟩, ⟨trivial, trivial, trivial⟩, trivial, trivial⟩ (AVle.rfl' ?_) | refine FinC.t (y := .tup [.agg [.int .i64 _, .nilsl, .nilsl], .agg [.int .i64 _, .int .i64 _], .bool _]) rfl rfl ⟨⟨trivial, trivial, trivial, trivial⟩, ⟨trivial, trivial, trivial⟩, trivial, trivial⟩ (AVle.trans noLe (AVle.rfl' ?_))
      all_goals try (unfold typeL; simp only [hp, hlt, true_and, if_true, if_false, Bool.false_eq_true]; (repeat' split) <;> first | rfl | (exfalso; omega) | exact congrArg (fun x => TyR.av ⟨true, l, [ls.getD l.toNat []], [x], l, c + 1⟩) (over2 _ c _) | exact congrArg (fun x => TyR.av ⟨true, l, [ls.getD l.toNat []], [x], l, c + 1⟩) (over3 _ c _ (by assumption)) | exact congrArg (fun x => TyR.av ⟨true, l, [ls.getD l.toNat []], [x], l, c + 1⟩) (ins_eq _ c _))


end Go.Proofs.Ytefbgdnobnemkaa.AM

namespace Go.Proofs.Ytefbgdnobnemkaa.AM
open Go Go.RowKit

/-- What is left of keys: one more. -/
def netStep (out : List UInt8) (c : UInt8) : List UInt8 :=
  if letterK c.toNat = true ∨ (c.toNat : Int) = 13 ∨ (c.toNat : Int) = 10 then out ++ [c]
  else if ((c.toNat : Int) = 8 ∨ (c.toNat : Int) = 127) ∧ 0 < (out.length : Int) ∧ letterK (out.getD ((out.length : Int) - 1).toNat 0).toNat = true then out.take ((out.length : Int) - 1).toNat
  else out
def netL (bs : List UInt8) : List UInt8 := bs.foldl netStep []

theorem netL_succ (bs : List UInt8) (i : Nat) (h : i < bs.length) : netL (bs.take (i + 1)) = netStep (netL (bs.take i)) (bs.getD i 0) := by
  unfold netL
  rw [List.take_add_one, List.getElem?_eq_getElem h, List.foldl_append]
  simp [h]

theorem take_len {α : Type} {l : List α} {n : Nat} (h : n ≤ l.length) : n = (l.take n).length := by rw [List.length_take]; omega

section
variable {out : List UInt8} {c : UInt8}
theorem step_app (h : letterK c.toNat = true ∨ (c.toNat : Int) = 13 ∨ (c.toNat : Int) = 10) : netStep out c = out ++ [UInt8.ofNat (c.toNat : Int).toNat] := by
  unfold netStep
  rw [if_pos h]
  simp
theorem step_cut (h1 : letterK c.toNat = false) (h2 : ¬ (c.toNat : Int) = 13) (h3 : ¬ (c.toNat : Int) = 10) (h4 : (c.toNat : Int) = 8 ∨ (c.toNat : Int) = 127) (h5 : 0 < (out.length : Int)) (h6 : letterK (out.getD ((out.length : Int) - 1).toNat 0).toNat = true) : netStep out c = out.take ((out.length : Int) - 1).toNat := by
  unfold netStep
  rw [if_neg (by rw [h1]; rintro (h | h | h); cases h; exact h2 h; exact h3 h), if_pos ⟨h4, h5, h6⟩]
theorem same_a (h1 : letterK c.toNat = false) (h2 : ¬ (c.toNat : Int) = 13) (h3 : ¬ (c.toNat : Int) = 10) (h4 : ¬ (c.toNat : Int) = 8) (h5 : ¬ (c.toNat : Int) = 127) : netStep out c = out := by
  unfold netStep
  rw [if_neg (by rw [h1]; rintro (h | h | h); cases h; exact h2 h; exact h3 h), if_neg (fun h => h.1.elim h4 h5)]
theorem same_b (h1 : letterK c.toNat = false) (h2 : ¬ (c.toNat : Int) = 13) (h3 : ¬ (c.toNat : Int) = 10) (h4 : ¬ 0 < (out.length : Int)) : netStep out c = out := by
  unfold netStep
  rw [if_neg (by rw [h1]; rintro (h | h | h); cases h; exact h2 h; exact h3 h), if_neg (fun h => h4 h.2.1)]
theorem same_c (h1 : letterK c.toNat = false) (h2 : ¬ (c.toNat : Int) = 13) (h3 : ¬ (c.toNat : Int) = 10) (h4 : letterK (out.getD ((out.length : Int) - 1).toNat 0).toNat = false) : netStep out c = out := by
  unfold netStep
  rw [if_neg (by rw [h1]; rintro (h | h | h); cases h; exact h2 h; exact h3 h), if_neg (fun h => by rw [h4] at h; cases h.2.2)]
end

def sh38 (bs out : List UInt8) (i : Int) : TS := ⟨53, 6, (.node (.node (.node (.node (.node (.node (.leaf (.slB bs)) (J 0)) (J 1)) (.node (.node (.leaf (.int .i64 (bs.length : Int))) (J 0)) (J 1))) (J 3)) (J 4)) (.node (.node (.node (J 2) (.node (.node (.leaf (.int .i64 i)) (J 0)) (J 1))) (J 3)) (.node (.node (.node (.node (.leaf (.own 27 out.length)) (J 0)) (J 1)) (J 2)) (.node (.node (.node (.leaf (.slB bs)) (J 0)) (J 1)) (J 2))))), (.node (OO 5) (.node (OO 4) (.node (.node (OO 2) (.node (OO 1) (.node (.leaf (some ⟨true, true, .slB out, 5⟩)) (OO 0)))) (OO 3))))⟩
def sh38b (bs out : List UInt8) (i : Int) : TS := ⟨53, 6, (.node (.node (.node (.node (.node (.node (.leaf (.slB bs)) (J 0)) (J 1)) (.node (.node (.leaf (.int .i64 (bs.length : Int))) (J 0)) (J 1))) (J 3)) (J 4)) (.node (.node (.node (J 2) (.node (.node (.leaf (.int .i64 i)) (J 0)) (J 1))) (J 3)) (.node (.node (.node (.node (.leaf (.own 50 out.length)) (J 0)) (J 1)) (J 2)) (.node (.node (.node (.leaf (.slB bs)) (J 0)) (J 1)) (J 2))))), (.node (.node (OO 4) (.node (.node (.node (OO 1) (.node (OO 0) (.leaf (some ⟨true, true, .slB out, 5⟩)))) (OO 2)) (OO 3))) (OO 5))⟩
set_option maxRecDepth 10000 in
set_option maxHeartbeats 8000000 in
theorem p38 (bs : List UInt8) (hl : bs.length ≤ 1000000000) : Pure Try.prog 38 [.slB bs] (.slB (netL bs)) := by
  refine Pure.ofT tab_ok Try.func38 rfl rfl [.tmp 2] rfl (by decide) rfl ⟨53, 6, (.node (.node (.node (.node (.node (.node (.leaf (.slB bs)) (J 0)) (J 1)) (J 2)) (J 3)) (J 4)) (J 5)), (OO 6)⟩ (by kernel_rfl) (by kernel_rfl) ?_
  repeat' (first
    | refine allProp_T ?_
    | exact trivial
    | (refine URun.id ?_; first
        | refine URun.nil ?_
        | refine URun.many tabs rfl rfl (by kernel_rfl) ?_ ?_
        | refine URun.same tabs rfl rfl rfl ?_
        | refine URun.same2 tabs rfl rfl rfl ?_
        | refine URun.split tabs rfl rfl rfl rfl (fun h => ?_) (fun h => ?_))
    | (refine TRun.id ?_; first
        | refine TRun.nil ?_
        | refine TRun.many rfl rfl (by kernel_rfl) ?_ ?_
        | refine TRun.same rfl rfl rfl ?_
        | refine TRun.same2 rfl rfl rfl ?_
        | refine TRun.split rfl rfl rfl rfl (fun h => ?_) (fun h => ?_))
    | (refine HoldsT.id ?_; first
        | refine HoldsT.seq ?_
        | refine HoldsT.regionU ?_
        | refine HoldsT.drawn tabs ?_
        | refine HoldsT.yes rfl ?_
        | refine HoldsT.no rfl ?_
        | refine HoldsT.cond rfl (fun h => ?_) (fun h => ?_)
        | refine HoldsT.block ?_
        | refine HoldsT.ret ?_
        | refine HoldsT.skip ?_
        | refine HoldsT.exit ?_)
    | (refine okTr_intro ?_; kernel_rfl)
    | exact absurd rfl h
    | refine allProp_C ?_ ?_
    | refine And.intro ?_ ?_
    | omega
    | (show _ < List.length _; omega)
    | exact rowlen_intro rfl
    | exact lenEq_intro rfl
    | exact Nat.le_of_ble_eq_true rfl
    | (simp only [AV.rowlenD, AV.rowlen, AV.ncells, mulSz, toN, Option.map_some, Option.map_none, cutL, List.length_take, List.length_drop, List.length_append, List.length_cons, List.length_nil, List.length_set, Option.some.injEq, Int.reduceToNat] <;> omega))
  refine HoldsT.loop (fun x : List UInt8 × Int => sh38 bs x.1 x.2) (fun x => (bs.length - x.2).toNat) (fun x => 0 ≤ x.2 ∧ x.2 ≤ bs.length ∧ x.1 = netL (bs.take x.2.toNat) ∧ x.1.length ≤ x.2) ([], 0) ?_ ?_ (fun _ => by kernel_rfl) ?_
  · refine (WeakT.canon 3 27 5 (.slB []) rfl rfl rfl (by kernel_rfl) rfl).trans ?_
    refine WeakT.of ?_ ?_ (by kernel_rfl)
    · repeat' (first | exact TTle.junk _ _ | exact TTle.same _ | refine TTle.node ?_ ?_ | refine TTle.leaf ?_ | exact AVle.junk _ | exact AVle.rfl' rfl | exact AVle.nilS | exact AVle.nilB)
    · repeat' (first | exact OOle.none _ _ | exact OOle.same _ | refine OOle.node ?_ ?_ | exact OOle.leaf _ | exact OOle.gone _)
  · exact ⟨by simp, by simp, rfl, by simp⟩
  · intro x hx
    obtain ⟨out, i⟩ := x
    obtain ⟨h1, h2, h3, h4⟩ := hx
    simp only at h1 h2 h3 h4
    have hz : ∀ b : UInt8, inK .u8 (b.toNat : Int) := fun b => ⟨by omega, by have := b.toNat_lt; omega⟩
    show HoldsT Try.prog _ (sh38 bs out i) _
    repeat' (first
      | refine allProp_T ?_
      | exact trivial
      | (refine URun.id ?_; first
          | refine URun.nil ?_
          | refine URun.many tabs rfl rfl (by kernel_rfl) ?_ ?_
          | (refine URun.toCall 59 rfl ?_; first
            | refine URun.callB tabs rfl rfl rfl rfl (p59 _) rfl rfl ?_ rfl rfl (fun h => ?_) (fun h => ?_))
          | refine URun.appB rfl rfl rfl rfl rfl rfl ?_ rfl ?_
          | refine URun.shrink tabs rfl rfl rfl rfl rfl rfl rfl rfl rfl rfl rfl rfl ?_ rfl rfl (by kernel_rfl) rfl rfl ?_
          | refine URun.same tabs rfl rfl rfl ?_
          | refine URun.same2 tabs rfl rfl rfl ?_
          | refine URun.split tabs rfl rfl rfl rfl (fun h => ?_) (fun h => ?_))
      | (refine TRun.id ?_; first
          | refine TRun.nil ?_
          | refine TRun.many rfl rfl (by kernel_rfl) ?_ ?_
          | (refine TRun.toCall 59 rfl ?_; first
            | refine TRun.callB rfl rfl rfl rfl (p59 _) rfl rfl ?_ rfl rfl (fun h => ?_) (fun h => ?_))
          | refine URun.appB rfl rfl rfl rfl rfl rfl ?_ rfl ?_
          | refine URun.shrink tabs rfl rfl rfl rfl rfl rfl rfl rfl rfl rfl rfl rfl ?_ rfl rfl (by kernel_rfl) rfl rfl ?_
          | refine TRun.same rfl rfl rfl ?_
          | refine TRun.same2 rfl rfl rfl ?_
          | refine TRun.split rfl rfl rfl rfl (fun h => ?_) (fun h => ?_))
      | (refine HoldsT.id ?_; first
          | refine HoldsT.seq ?_
          | refine HoldsT.regionU ?_
          | refine HoldsT.drawn tabs ?_
          | refine HoldsT.yes rfl ?_
          | refine HoldsT.no rfl ?_
          | refine HoldsT.cond rfl (fun h => ?_) (fun h => ?_)
          | refine HoldsT.block ?_
          | refine HoldsT.ret ?_
          | refine HoldsT.skip ?_
          | refine HoldsT.exit ?_)
      | (refine okTr_intro ?_; kernel_rfl)
      | exact absurd rfl h
      | exact ⟨hz _, trivial⟩
      | refine allProp_C ?_ ?_
      | refine And.intro ?_ ?_
      | omega
      | (show _ < List.length _; omega)
      | exact rowlen_intro rfl
      | exact lenEq_intro rfl
      | exact Nat.le_of_ble_eq_true rfl
      | (simp only [AV.rowlenD, AV.rowlen, AV.ncells, mulSz, toN, Option.map_some, Option.map_none, cutL, List.length_take, List.length_drop, List.length_append, List.length_cons, List.length_nil, List.length_set, Option.some.injEq, Int.reduceToNat] <;> omega))
    all_goals first
      | (refine ⟨(out ++ [UInt8.ofNat ((bs.getD i.toNat 0).toNat : Int).toNat], i + 1), ⟨by simp only; omega, by simp only; omega, by simp only; omega, by (simp only; rw [toNat_succ h1, netL_succ _ _ (by omega), ← h3]; refine Eq.symm ?_; exact step_app (by first | exact .inl (by assumption) | exact .inr (.inl (by assumption)) | exact .inr (.inr (by assumption)))), by (simp only [List.length_append, List.length_cons, List.length_nil, List.length_take]; omega)⟩, ?_⟩
         refine WeakT.of ?_ ?_ (by kernel_rfl)
         · repeat' (first | exact TTle.junk _ _ | exact TTle.same _ | refine TTle.node ?_ ?_ | refine TTle.leaf ?_ | exact AVle.junk _ | exact AVle.rfl' rfl | exact AVle.nilS | exact AVle.nilB | exact AVle.rfl' (congrArg (AV.own 27) (tail_row _ _)))
         · repeat' (first | exact OOle.none _ _ | exact OOle.same _ | refine OOle.node ?_ ?_ | exact OOle.leaf _ | exact OOle.gone _))
      | (refine ⟨(out.take ((out.length : Int) - 1).toNat, i + 1), ⟨by simp only; omega, by simp only; omega, by simp only; omega, by (simp only; rw [toNat_succ h1, netL_succ _ _ (by omega), ← h3]; refine Eq.symm ?_; exact step_cut (by assumption) (by assumption) (by assumption) (by first | exact .inl (by assumption) | exact .inr (by assumption)) (by assumption) (by assumption)), by (simp only [List.length_append, List.length_cons, List.length_nil, List.length_take]; omega)⟩, ?_⟩
         refine WeakT.trans (T' := sh38b bs (out.take ((out.length : Int) - 1).toNat) (i + 1)) ?_ ((WeakT.rename 3 50 27 _ rfl rfl rfl rfl rfl rfl rfl (by kernel_rfl) rfl).trans ?_)
         · refine WeakT.of ?_ ?_ (by kernel_rfl)
           · repeat' (first | exact TTle.junk _ _ | exact TTle.same _ | refine TTle.node ?_ ?_ | refine TTle.leaf ?_ | exact AVle.junk _ | exact AVle.rfl' rfl | exact AVle.nilS | exact AVle.nilB | exact AVle.rfl' (congrArg (AV.own 50) (take_len (by omega))))
           · repeat' (first | exact OOle.none _ _ | exact OOle.same _ | refine OOle.node ?_ ?_ | exact OOle.leaf _ | exact OOle.gone _)
         · refine WeakT.of ?_ ?_ (by kernel_rfl)
           · repeat' (first | exact TTle.junk _ _ | exact TTle.same _ | refine TTle.node ?_ ?_ | refine TTle.leaf ?_ | exact AVle.junk _ | exact AVle.rfl' rfl | exact AVle.nilS | exact AVle.nilB)
           · repeat' (first | exact OOle.none _ _ | exact OOle.same _ | refine OOle.node ?_ ?_ | exact OOle.leaf _ | exact OOle.gone _))
      | (refine ⟨(out, i + 1), ⟨by simp only; omega, by simp only; omega, by simp only; omega, by (simp only; rw [toNat_succ h1, netL_succ _ _ (by omega), ← h3]; refine Eq.symm ?_; first | exact same_a (by assumption) (by assumption) (by assumption) (by assumption) (by assumption) | exact same_b (by assumption) (by assumption) (by assumption) (by assumption) | exact same_c (by assumption) (by assumption) (by assumption) (by assumption)), by (simp only [List.length_append, List.length_cons, List.length_nil, List.length_take]; omega)⟩, ?_⟩
         refine WeakT.of ?_ ?_ (by kernel_rfl)
         · repeat' (first | exact TTle.junk _ _ | exact TTle.same _ | refine TTle.node ?_ ?_ | refine TTle.leaf ?_ | exact AVle.junk _ | exact AVle.rfl' rfl | exact AVle.nilS | exact AVle.nilB)
         · repeat' (first | exact OOle.none _ _ | exact OOle.same _ | refine OOle.node ?_ ?_ | exact OOle.leaf _ | exact OOle.gone _))
      | (refine FinC.t (y := .slB _) rfl rfl ⟨rfl, trivial⟩ (AVle.rfl' (congrArg AV.slB ?_))
         rw [h3, List.take_of_length_le (by omega)])

def sh39 (bs out : List UInt8) (i : Int) : TS := ⟨58, 6, (.node (.node (.node (.node (.node (.node (.leaf (.slB bs)) (J 0)) (J 1)) (J 2)) (.node (.node (.node (.leaf (.int .i64 i)) (J 0)) (J 1)) (J 2))) (J 4)) (.node (J 4) (.node (.node (.node (.node (.leaf (.own 30 out.length)) (J 0)) (J 1)) (J 2)) (J 3)))), (.node (.node (OO 4) (.node (OO 3) (.node (OO 2) (.node (OO 1) (.node (.leaf (some ⟨true, true, .slB out, 5⟩)) (OO 0)))))) (OO 5))⟩
def sh39b (bs out : List UInt8) (i : Int) : TS := ⟨58, 6, (.node (.node (.node (.node (.node (.node (.leaf (.slB bs)) (J 0)) (J 1)) (J 2)) (.node (.node (.node (.leaf (.int .i64 i)) (J 0)) (J 1)) (J 2))) (J 4)) (.node (J 4) (.node (.node (.node (.node (.leaf (.own 56 out.length)) (J 0)) (J 1)) (J 2)) (J 3)))), (.node (.node (.node (.node (OO 2) (.node (OO 1) (.node (OO 0) (.leaf (some ⟨true, true, .slB out, 5⟩))))) (OO 3)) (OO 4)) (OO 5))⟩
set_option maxRecDepth 10000 in
set_option maxHeartbeats 8000000 in
theorem p39 (bs : List UInt8) (hl : bs.length ≤ 1000000000) : Pure Try.prog 39 [.slB bs] (.slB (netL bs)) := by
  refine Pure.ofT tab_ok Try.func39 rfl rfl [.tmp 2] rfl (by decide) rfl ⟨58, 6, (.node (.node (.node (.node (.node (.node (.leaf (.slB bs)) (J 0)) (J 1)) (J 2)) (J 3)) (J 4)) (J 5)), (OO 6)⟩ (by kernel_rfl) (by kernel_rfl) ?_
  repeat' (first
    | refine allProp_T ?_
    | exact trivial
    | (refine URun.id ?_; first
        | refine URun.nil ?_
        | refine URun.many tabs rfl rfl (by kernel_rfl) ?_ ?_
        | refine URun.same tabs rfl rfl rfl ?_
        | refine URun.same2 tabs rfl rfl rfl ?_
        | refine URun.split tabs rfl rfl rfl rfl (fun h => ?_) (fun h => ?_))
    | (refine TRun.id ?_; first
        | refine TRun.nil ?_
        | refine TRun.many rfl rfl (by kernel_rfl) ?_ ?_
        | refine TRun.same rfl rfl rfl ?_
        | refine TRun.same2 rfl rfl rfl ?_
        | refine TRun.split rfl rfl rfl rfl (fun h => ?_) (fun h => ?_))
    | (refine HoldsT.id ?_; first
        | refine HoldsT.seq ?_
        | refine HoldsT.regionU ?_
        | refine HoldsT.drawn tabs ?_
        | refine HoldsT.yes rfl ?_
        | refine HoldsT.no rfl ?_
        | refine HoldsT.cond rfl (fun h => ?_) (fun h => ?_)
        | refine HoldsT.block ?_
        | refine HoldsT.ret ?_
        | refine HoldsT.skip ?_
        | refine HoldsT.exit ?_)
    | (refine okTr_intro ?_; kernel_rfl)
    | exact absurd rfl h
    | refine allProp_C ?_ ?_
    | refine And.intro ?_ ?_
    | omega
    | (show _ < List.length _; omega)
    | exact rowlen_intro rfl
    | exact lenEq_intro rfl
    | exact Nat.le_of_ble_eq_true rfl
    | (simp only [AV.rowlenD, AV.rowlen, AV.ncells, mulSz, toN, Option.map_some, Option.map_none, cutL, List.length_take, List.length_drop, List.length_append, List.length_cons, List.length_nil, List.length_set, Option.some.injEq, Int.reduceToNat] <;> omega))
  refine HoldsT.loop (fun x : List UInt8 × Int => sh39 bs x.1 x.2) (fun x => (bs.length - x.2).toNat) (fun x => 0 ≤ x.2 ∧ x.2 ≤ bs.length ∧ x.1 = netL (bs.take x.2.toNat) ∧ x.1.length ≤ x.2) ([], 0) ?_ ?_ (fun _ => by kernel_rfl) ?_
  · refine (WeakT.canon 3 30 5 (.slB []) rfl rfl rfl (by kernel_rfl) rfl).trans ?_
    refine WeakT.of ?_ ?_ (by kernel_rfl)
    · repeat' (first | exact TTle.junk _ _ | exact TTle.same _ | refine TTle.node ?_ ?_ | refine TTle.leaf ?_ | exact AVle.junk _ | exact AVle.rfl' rfl | exact AVle.nilS | exact AVle.nilB)
    · repeat' (first | exact OOle.none _ _ | exact OOle.same _ | refine OOle.node ?_ ?_ | exact OOle.leaf _ | exact OOle.gone _)
  · exact ⟨by simp, by simp, rfl, by simp⟩
  · intro x hx
    obtain ⟨out, i⟩ := x
    obtain ⟨h1, h2, h3, h4⟩ := hx
    simp only at h1 h2 h3 h4
    have hz : ∀ b : UInt8, inK .u8 (b.toNat : Int) := fun b => ⟨by omega, by have := b.toNat_lt; omega⟩
    show HoldsT Try.prog _ (sh39 bs out i) _
    repeat' (first
      | refine allProp_T ?_
      | exact trivial
      | (refine URun.id ?_; first
          | refine URun.nil ?_
          | refine URun.many tabs rfl rfl (by kernel_rfl) ?_ ?_
          | (refine URun.toCall 63 rfl ?_; first
            | refine URun.callB tabs rfl rfl rfl rfl (p63 _) rfl rfl ?_ rfl rfl (fun h => ?_) (fun h => ?_))
          | refine URun.appB rfl rfl rfl rfl rfl rfl ?_ rfl ?_
          | refine URun.shrink tabs rfl rfl rfl rfl rfl rfl rfl rfl rfl rfl rfl rfl ?_ rfl rfl (by kernel_rfl) rfl rfl ?_
          | refine URun.same tabs rfl rfl rfl ?_
          | refine URun.same2 tabs rfl rfl rfl ?_
          | refine URun.split tabs rfl rfl rfl rfl (fun h => ?_) (fun h => ?_))
      | (refine TRun.id ?_; first
          | refine TRun.nil ?_
          | refine TRun.many rfl rfl (by kernel_rfl) ?_ ?_
          | (refine TRun.toCall 63 rfl ?_; first
            | refine TRun.callB rfl rfl rfl rfl (p63 _) rfl rfl ?_ rfl rfl (fun h => ?_) (fun h => ?_))
          | refine URun.appB rfl rfl rfl rfl rfl rfl ?_ rfl ?_
          | refine URun.shrink tabs rfl rfl rfl rfl rfl rfl rfl rfl rfl rfl rfl rfl ?_ rfl rfl (by kernel_rfl) rfl rfl ?_
          | refine TRun.same rfl rfl rfl ?_
          | refine TRun.same2 rfl rfl rfl ?_
          | refine TRun.split rfl rfl rfl rfl (fun h => ?_) (fun h => ?_))
      | (refine HoldsT.id ?_; first
          | refine HoldsT.seq ?_
          | refine HoldsT.regionU ?_
          | refine HoldsT.drawn tabs ?_
          | refine HoldsT.yes rfl ?_
          | refine HoldsT.no rfl ?_
          | refine HoldsT.cond rfl (fun h => ?_) (fun h => ?_)
          | refine HoldsT.block ?_
          | refine HoldsT.ret ?_
          | refine HoldsT.skip ?_
          | refine HoldsT.exit ?_)
      | (refine okTr_intro ?_; kernel_rfl)
      | exact absurd rfl h
      | exact ⟨hz _, trivial⟩
      | refine allProp_C ?_ ?_
      | refine And.intro ?_ ?_
      | omega
      | (show _ < List.length _; omega)
      | exact rowlen_intro rfl
      | exact lenEq_intro rfl
      | exact Nat.le_of_ble_eq_true rfl
      | (simp only [AV.rowlenD, AV.rowlen, AV.ncells, mulSz, toN, Option.map_some, Option.map_none, cutL, List.length_take, List.length_drop, List.length_append, List.length_cons, List.length_nil, List.length_set, Option.some.injEq, Int.reduceToNat] <;> omega))
    all_goals first
      | (refine ⟨(out ++ [UInt8.ofNat ((bs.getD i.toNat 0).toNat : Int).toNat], i + 1), ⟨by simp only; omega, by simp only; omega, by simp only; omega, by (simp only; rw [toNat_succ h1, netL_succ _ _ (by omega), ← h3]; refine Eq.symm ?_; exact step_app (by first | exact .inl (by assumption) | exact .inr (.inl (by assumption)) | exact .inr (.inr (by assumption)))), by (simp only [List.length_append, List.length_cons, List.length_nil, List.length_take]; omega)⟩, ?_⟩
         refine WeakT.of ?_ ?_ (by kernel_rfl)
         · repeat' (first | exact TTle.junk _ _ | exact TTle.same _ | refine TTle.node ?_ ?_ | refine TTle.leaf ?_ | exact AVle.junk _ | exact AVle.rfl' rfl | exact AVle.nilS | exact AVle.nilB | exact AVle.rfl' (congrArg (AV.own 30) (tail_row _ _)))
         · repeat' (first | exact OOle.none _ _ | exact OOle.same _ | refine OOle.node ?_ ?_ | exact OOle.leaf _ | exact OOle.gone _))
      | (refine ⟨(out.take ((out.length : Int) - 1).toNat, i + 1), ⟨by simp only; omega, by simp only; omega, by simp only; omega, by (simp only; rw [toNat_succ h1, netL_succ _ _ (by omega), ← h3]; refine Eq.symm ?_; exact step_cut (by assumption) (by assumption) (by assumption) (by first | exact .inl (by assumption) | exact .inr (by assumption)) (by assumption) (by assumption)), by (simp only [List.length_append, List.length_cons, List.length_nil, List.length_take]; omega)⟩, ?_⟩
         refine WeakT.trans (T' := sh39b bs (out.take ((out.length : Int) - 1).toNat) (i + 1)) ?_ ((WeakT.rename 3 56 30 _ rfl rfl rfl rfl rfl rfl rfl (by kernel_rfl) rfl).trans ?_)
         · refine WeakT.of ?_ ?_ (by kernel_rfl)
           · repeat' (first | exact TTle.junk _ _ | exact TTle.same _ | refine TTle.node ?_ ?_ | refine TTle.leaf ?_ | exact AVle.junk _ | exact AVle.rfl' rfl | exact AVle.nilS | exact AVle.nilB | exact AVle.rfl' (congrArg (AV.own 56) (take_len (by omega))))
           · repeat' (first | exact OOle.none _ _ | exact OOle.same _ | refine OOle.node ?_ ?_ | exact OOle.leaf _ | exact OOle.gone _)
         · refine WeakT.of ?_ ?_ (by kernel_rfl)
           · repeat' (first | exact TTle.junk _ _ | exact TTle.same _ | refine TTle.node ?_ ?_ | refine TTle.leaf ?_ | exact AVle.junk _ | exact AVle.rfl' rfl | exact AVle.nilS | exact AVle.nilB)
           · repeat' (first | exact OOle.none _ _ | exact OOle.same _ | refine OOle.node ?_ ?_ | exact OOle.leaf _ | exact OOle.gone _))
      | (refine ⟨(out, i + 1), ⟨by simp only; omega, by simp only; omega, by simp only; omega, by (simp only; rw [toNat_succ h1, netL_succ _ _ (by omega), ← h3]; refine Eq.symm ?_; first | exact same_a (by assumption) (by assumption) (by assumption) (by assumption) (by assumption) | exact same_b (by assumption) (by assumption) (by assumption) (by assumption) | exact same_c (by assumption) (by assumption) (by assumption) (by assumption)), by (simp only [List.length_append, List.length_cons, List.length_nil, List.length_take]; omega)⟩, ?_⟩
         refine WeakT.of ?_ ?_ (by kernel_rfl)
         · repeat' (first | exact TTle.junk _ _ | exact TTle.same _ | refine TTle.node ?_ ?_ | refine TTle.leaf ?_ | exact AVle.junk _ | exact AVle.rfl' rfl | exact AVle.nilS | exact AVle.nilB)
         · repeat' (first | exact OOle.none _ _ | exact OOle.same _ | refine OOle.node ?_ ?_ | exact OOle.leaf _ | exact OOle.gone _))
      | (refine FinC.t (y := .slB _) rfl rfl ⟨rfl, trivial⟩ (AVle.rfl' (congrArg AV.slB ?_))
         rw [h3, List.take_of_length_le (by omega)])

end Go.Proofs.Ytefbgdnobnemkaa.AM

namespace Go.Proofs.Ytefbgdnobnemkaa.AM
open Go Go.RowKit

theorem Pure.le {P : Program} {f : FuncId} {args args' : List AV} {r : AV} (h : Pure P f args' r) (ha : AVles args args') : Pure P f args r := by
  obtain ⟨h1, h2, h3⟩ := h
  refine ⟨h1, h2, fun A w vs hA hl hv => h3 A w vs hA (by rw [hl, ha.length]) fun i x hx => ?_⟩
  obtain ⟨y, hy, hle⟩ := ha.some hx
  exact hle.run _ _ _ _ (hv i y hy)
theorem Pure.res {P : Program} {f : FuncId} {args : List AV} {r r' : AV} (h : Pure P f args r) (hr : AVle r r') (hm : r'.ments = []) : Pure P f args r' := by
  obtain ⟨_, h2, h3⟩ := h
  exact ⟨hm, h2, fun A w vs hA hl hv => (h3 A w vs hA hl hv).mono fun e w' ⟨v, h4, h5, h6⟩ => ⟨v, h4, hr.run _ _ _ _ h5, h6⟩⟩

theorem two (n : Nat) : (([[97, 98]] : List (List UInt8)).getD n []).length ≤ 140737488355328 := by
  match n with
  | 0 => simp
  | n + 1 => simp
theorem k35a : Pure Try.prog 35 [.slS [[97, 98]], .agg [.int .i64 0, .int .i64 1], .agg [.int .i64 0, .int .i64 1], .int .i64 1, .int .u8 120] (.tup [.agg [.int .i64 0, .slS [[97, 98]], .slS [[97, 120, 98]]], .agg [.int .i64 0, .int .i64 2], .bool true]) := by
  have h := p35 [[97, 98]] 0 1 0 1 1 120 (by decide) two ⟨by decide, by decide⟩
  have e : (typeL [[97, 98]] 0 1 0 1 1 120).av = .tup [.agg [.int .i64 0, .slS [[97, 98]], .slS [[97, 120, 98]]], .agg [.int .i64 0, .int .i64 2], .bool true] := by kernel_rfl
  rwa [e] at h
theorem k35b : Pure Try.prog 35 [.slS [[97, 98]], .agg [.int .i64 0, .int .i64 1], .agg [.int .i64 0, .int .i64 1], .int .i64 1, .int .u8 8] (.tup [.agg [.int .i64 0, .slS [], .slS []], .agg [.int .i64 0, .int .i64 0], .bool false]) := by
  have h := p35 [[97, 98]] 0 1 0 1 1 8 (by decide) two ⟨by decide, by decide⟩
  have e : (typeL [[97, 98]] 0 1 0 1 1 8).av = .tup [.agg [.int .i64 0, .slS [], .slS []], .agg [.int .i64 0, .int .i64 0], .bool false] := by kernel_rfl
  rwa [e] at h
theorem k35c : Pure Try.prog 35 [.slS [[97, 98]], .agg [.int .i64 0, .int .i64 1], .agg [.int .i64 0, .int .i64 0], .int .i64 2, .int .u8 13] (.tup [.agg [.int .i64 0, .slS [[97, 98]], .slS [[97], [98]]], .agg [.int .i64 1, .int .i64 0], .bool true]) := by
  have h := p35 [[97, 98]] 0 1 0 0 2 13 (by decide) two ⟨by decide, by decide⟩
  have e : (typeL [[97, 98]] 0 1 0 0 2 13).av = .tup [.agg [.int .i64 0, .slS [[97, 98]], .slS [[97], [98]]], .agg [.int .i64 1, .int .i64 0], .bool true] := by kernel_rfl
  rwa [e] at h

theorem k38 : Pure Try.prog 38 [.slG 1 [.int .u8 97, .int .u8 8, .int .u8 98]] (.slB [98]) := by
  have h := p38 [97, 8, 98] (by decide)
  have e : netL [97, 8, 98] = [98] := by kernel_rfl
  rw [e] at h
  refine h.le (.cons ?_ .nil)
  have e2 : [AV.int .u8 97, .int .u8 8, .int .u8 98] = byteCells [97, 8, 98] := by kernel_rfl
  rw [e2]
  exact AVle.bytes _
theorem k30x : Pure Try.prog 30 [.slS [[97, 120, 98]], .slS [[97, 120, 98]]] (.bool true) := by
  have h := p30 [[97, 120, 98]] [[97, 120, 98]] (by decide)
  rwa [decide_eq_true rfl] at h
set_option maxRecDepth 10000 in
set_option maxHeartbeats 8000000 in
theorem p34 : Pure Try.prog 34 [] (.bool true) := by
  refine Pure.ofT tab_ok Try.func34 rfl rfl [.tmp 0] rfl (by decide) rfl ⟨72, 7, (J 7), (OO 7)⟩ (by kernel_rfl) (by kernel_rfl) ?_
  repeat' (first
    | refine allProp_T ?_
    | exact trivial
    | (refine URun.id ?_; first
        | refine URun.nil ?_
        | refine URun.many tabs rfl rfl (by kernel_rfl) ?_ ?_
        | (refine URun.toCall 35 rfl ?_; first
          | refine URun.call tabs rfl rfl rfl rfl k35a rfl rfl ?_ rfl ?_
          | refine URun.call tabs rfl rfl rfl rfl k35b rfl rfl ?_ rfl ?_
          | refine URun.call tabs rfl rfl rfl rfl k35c rfl rfl ?_ rfl ?_)
        | (refine URun.toCall 38 rfl ?_; first
          | refine URun.call tabs rfl rfl rfl rfl k38 rfl rfl ?_ rfl ?_)
        | (refine URun.toCall 30 rfl ?_; first
          | refine URun.call tabs rfl rfl rfl rfl k30x rfl rfl ?_ rfl ?_)
        | refine URun.same tabs rfl rfl rfl ?_
        | refine URun.same2 tabs rfl rfl rfl ?_
        | refine URun.split tabs rfl rfl rfl rfl (fun h => ?_) (fun h => ?_))
    | (refine TRun.id ?_; first
        | refine TRun.nil ?_
        | refine TRun.many rfl rfl (by kernel_rfl) ?_ ?_
        | (refine TRun.toCall 35 rfl ?_; first
          | refine TRun.call rfl rfl rfl rfl k35a rfl rfl ?_ rfl ?_
          | refine TRun.call rfl rfl rfl rfl k35b rfl rfl ?_ rfl ?_
          | refine TRun.call rfl rfl rfl rfl k35c rfl rfl ?_ rfl ?_)
        | (refine TRun.toCall 38 rfl ?_; first
          | refine TRun.call rfl rfl rfl rfl k38 rfl rfl ?_ rfl ?_)
        | (refine TRun.toCall 30 rfl ?_; first
          | refine TRun.call rfl rfl rfl rfl k30x rfl rfl ?_ rfl ?_)
        | refine TRun.same rfl rfl rfl ?_
        | refine TRun.same2 rfl rfl rfl ?_
        | refine TRun.split rfl rfl rfl rfl (fun h => ?_) (fun h => ?_))
    | (refine HoldsT.id ?_; first
        | refine HoldsT.seq ?_
        | refine HoldsT.regionU ?_
        | refine HoldsT.drawn tabs ?_
        | refine HoldsT.yes rfl ?_
        | refine HoldsT.no rfl ?_
        | refine HoldsT.cond rfl (fun h => ?_) (fun h => ?_)
        | refine HoldsT.block ?_
        | refine HoldsT.ret ?_
        | refine HoldsT.skip ?_
        | refine HoldsT.exit ?_)
    | (refine okTr_intro ?_; kernel_rfl)
    | exact absurd rfl h
    | refine allProp_C ?_ ?_
    | refine And.intro ?_ ?_
    | omega
    | (show _ < List.length _; omega)
    | exact rowlen_intro rfl
    | exact lenEq_intro rfl
    | exact Nat.le_of_ble_eq_true rfl
    | (simp only [AV.rowlenD, AV.rowlen, AV.ncells, mulSz, toN, Option.map_some, Option.map_none, cutL, List.length_take, List.length_drop, List.length_append, List.length_cons, List.length_nil, List.length_set, Option.some.injEq, Int.reduceToNat] <;> omega))
  exact FinC.te (y := .bool true) rfl rfl trivial rfl

end Go.Proofs.Ytefbgdnobnemkaa.AM

namespace Go.Proofs.Ytefbgdnobnemkaa.AM
open Go Go.RowKit

def sizeL (ls : List (List UInt8)) : Nat := sumL ls + ls.length
theorem sizeL_take (ls : List (List UInt8)) (i : Nat) (h : i < ls.length) : sizeL (ls.take (i + 1)) = sizeL (ls.take i) + (ls.getD i []).length + 1 := by
  unfold sizeL
  rw [sumL_take ls i h, List.length_take, List.length_take]
  omega

def sh33 (ls : List (List UInt8)) (n i : Int) : TS := ⟨20, 5, (.node (.node (.node (.node (.node (.leaf (.slS ls)) (J 0)) (J 1)) (.node (.node (.leaf (.int .i64 i)) (J 0)) (J 1))) (J 3)) (.node (J 3) (.node (.node (.node (.leaf (.int .i64 n)) (J 0)) (J 1)) (J 2)))), (OO 5)⟩
set_option maxRecDepth 10000 in
set_option maxHeartbeats 8000000 in
theorem p33 (ls : List (List UInt8)) (hl : ls.length ≤ 1000000000) (hs : sumL ls ≤ 1000000000000000) : Pure Try.prog 33 [.slS ls] (.int .i64 (sizeL ls)) := by
  refine Pure.ofT tab_ok Try.func33 rfl rfl [.tmp 2] rfl (by decide) rfl ⟨20, 5, (.node (.node (.node (.node (.node (.leaf (.slS ls)) (J 0)) (J 1)) (J 2)) (J 3)) (J 4)), (OO 5)⟩ (by kernel_rfl) (by kernel_rfl) ?_
  repeat' (first
    | refine allProp_T ?_
    | exact trivial
    | (refine URun.id ?_; first
        | refine URun.nil ?_
        | refine URun.many tabs rfl rfl (by kernel_rfl) ?_ ?_
        | refine URun.same tabs rfl rfl rfl ?_
        | refine URun.same2 tabs rfl rfl rfl ?_
        | refine URun.split tabs rfl rfl rfl rfl (fun h => ?_) (fun h => ?_))
    | (refine TRun.id ?_; first
        | refine TRun.nil ?_
        | refine TRun.many rfl rfl (by kernel_rfl) ?_ ?_
        | refine TRun.same rfl rfl rfl ?_
        | refine TRun.same2 rfl rfl rfl ?_
        | refine TRun.split rfl rfl rfl rfl (fun h => ?_) (fun h => ?_))
    | (refine HoldsT.id ?_; first
        | refine HoldsT.seq ?_
        | refine HoldsT.regionU ?_
        | refine HoldsT.drawn tabs ?_
        | refine HoldsT.yes rfl ?_
        | refine HoldsT.no rfl ?_
        | refine HoldsT.cond rfl (fun h => ?_) (fun h => ?_)
        | refine HoldsT.block ?_
        | refine HoldsT.ret ?_
        | refine HoldsT.skip ?_
        | refine HoldsT.exit ?_)
    | (refine okTr_intro ?_; kernel_rfl)
    | exact absurd rfl h
    | refine allProp_C ?_ ?_
    | refine And.intro ?_ ?_
    | omega
    | (show _ < List.length _; omega)
    | exact rowlen_intro rfl
    | exact lenEq_intro rfl
    | exact Nat.le_of_ble_eq_true rfl
    | (simp only [AV.rowlenD, AV.rowlen, AV.ncells, mulSz, toN, Option.map_some, Option.map_none, cutL, List.length_take, List.length_drop, List.length_append, List.length_cons, List.length_nil, List.length_set, Option.some.injEq, Int.reduceToNat] <;> omega))
  refine HoldsT.loop (fun x : Int × Int => sh33 ls x.1 x.2) (fun x => (ls.length - x.2).toNat) (fun x => 0 ≤ x.2 ∧ x.2 ≤ ls.length ∧ x.1 = sizeL (ls.take x.2.toNat)) (0, 0) ?_ ?_ (fun _ => by kernel_rfl) ?_
  · refine WeakT.of ?_ ?_ (by kernel_rfl)
    · repeat' (first | exact TTle.junk _ _ | exact TTle.same _ | refine TTle.node ?_ ?_ | refine TTle.leaf ?_ | exact AVle.junk _ | exact AVle.rfl' rfl | exact AVle.nilS | exact AVle.nilB)
    · repeat' (first | exact OOle.none _ _ | exact OOle.same _ | refine OOle.node ?_ ?_ | exact OOle.leaf _ | exact OOle.gone _)
  · exact ⟨by simp, by simp, by simp [sizeL, sumL]⟩
  · intro x hx
    obtain ⟨n, i⟩ := x
    obtain ⟨h1, h2, h3⟩ := hx
    simp only at h1 h2 h3
    have hs1 : i < ls.length → sizeL (ls.take (i.toNat + 1)) = sizeL (ls.take i.toNat) + (ls.getD i.toNat []).length + 1 := fun hi => sizeL_take ls i.toNat (by omega)
    have hs2 := sumL_le ls (i.toNat + 1)
    have hs3 : sizeL (ls.take (i.toNat + 1)) ≤ 1000001000000000 := by unfold sizeL; rw [List.length_take]; omega
    show HoldsT Try.prog _ (sh33 ls n i) _
    repeat' (first
      | refine allProp_T ?_
      | exact trivial
      | (refine URun.id ?_; first
          | refine URun.nil ?_
          | refine URun.many tabs rfl rfl (by kernel_rfl) ?_ ?_
          | refine URun.same tabs rfl rfl rfl ?_
          | refine URun.same2 tabs rfl rfl rfl ?_
          | refine URun.split tabs rfl rfl rfl rfl (fun h => ?_) (fun h => ?_))
      | (refine TRun.id ?_; first
          | refine TRun.nil ?_
          | refine TRun.many rfl rfl (by kernel_rfl) ?_ ?_
          | refine TRun.same rfl rfl rfl ?_
          | refine TRun.same2 rfl rfl rfl ?_
          | refine TRun.split rfl rfl rfl rfl (fun h => ?_) (fun h => ?_))
      | (refine HoldsT.id ?_; first
          | refine HoldsT.seq ?_
          | refine HoldsT.regionU ?_
          | refine HoldsT.drawn tabs ?_
          | refine HoldsT.yes rfl ?_
          | refine HoldsT.no rfl ?_
          | refine HoldsT.cond rfl (fun h => ?_) (fun h => ?_)
          | refine HoldsT.block ?_
          | refine HoldsT.ret ?_
          | refine HoldsT.skip ?_
          | refine HoldsT.exit ?_)
      | (refine okTr_intro ?_; kernel_rfl)
      | exact absurd rfl h
      | (have hs4 := hs1 (by assumption); omega)
      | refine allProp_C ?_ ?_
      | refine And.intro ?_ ?_
      | omega
      | (show _ < List.length _; omega)
      | exact rowlen_intro rfl
      | exact lenEq_intro rfl
      | exact Nat.le_of_ble_eq_true rfl
      | (simp only [AV.rowlenD, AV.rowlen, AV.ncells, mulSz, toN, Option.map_some, Option.map_none, cutL, List.length_take, List.length_drop, List.length_append, List.length_cons, List.length_nil, List.length_set, Option.some.injEq, Int.reduceToNat] <;> omega))
    · have hs4 := hs1 h
      refine ⟨(n + ((ls.getD i.toNat []).length + 1), i + 1), ⟨by simp only; omega, by simp only; omega, by simp only; omega, ?_⟩, ?_⟩
      · simp only; rw [toNat_succ h1]; omega
      · refine WeakT.of ?_ ?_ (by kernel_rfl)
        · repeat' (first | exact TTle.junk _ _ | exact TTle.same _ | refine TTle.node ?_ ?_ | refine TTle.leaf ?_ | exact AVle.junk _ | exact AVle.rfl' rfl | exact AVle.nilS | exact AVle.nilB)
        · repeat' (first | exact OOle.none _ _ | exact OOle.same _ | refine OOle.node ?_ ?_ | exact OOle.leaf _ | exact OOle.gone _)
    · refine FinC.te (y := .int .i64 _) rfl rfl trivial (congrArg (AV.int .i64) ?_)
      rw [h3, List.take_of_length_le (by omega)]

def sh81 (a b : List (List UInt8)) (k : Int) : TS := ⟨26, 5, (.node (.node (.node (.node (.node (.leaf (.slS a)) (J 0)) (J 1)) (J 2)) (J 3)) (.node (.node (.node (.node (.leaf (.slS b)) (J 0)) (J 1)) (.node (.node (.leaf (.int .i64 k)) (J 0)) (J 1))) (J 3))), (OO 5)⟩
set_option maxRecDepth 10000 in
set_option maxHeartbeats 8000000 in
theorem p81 (a b : List (List UInt8)) (ha : a.length ≤ 1000000000000) : Pure Try.prog 81 [.slS a, .slS b] (.bool (decide (a = b))) := by
  refine Pure.ofT tab_ok Try.func81 rfl rfl [.tmp 4] rfl (by decide) rfl ⟨26, 5, (.node (.node (.node (.node (.node (.leaf (.slS a)) (J 0)) (J 1)) (J 2)) (J 3)) (.node (.node (.node (.node (.leaf (.slS b)) (J 0)) (J 1)) (J 2)) (J 3))), (OO 5)⟩ (by kernel_rfl) (by kernel_rfl) ?_
  repeat' (first
    | refine allProp_T ?_
    | exact trivial
    | (refine URun.id ?_; first
        | refine URun.nil ?_
        | refine URun.many tabs rfl rfl (by kernel_rfl) ?_ ?_
        | refine URun.same tabs rfl rfl rfl ?_
        | refine URun.same2 tabs rfl rfl rfl ?_
        | refine URun.split tabs rfl rfl rfl rfl (fun h => ?_) (fun h => ?_))
    | (refine TRun.id ?_; first
        | refine TRun.nil ?_
        | refine TRun.many rfl rfl (by kernel_rfl) ?_ ?_
        | refine TRun.same rfl rfl rfl ?_
        | refine TRun.same2 rfl rfl rfl ?_
        | refine TRun.split rfl rfl rfl rfl (fun h => ?_) (fun h => ?_))
    | (refine HoldsT.id ?_; first
        | refine HoldsT.seq ?_
        | refine HoldsT.regionU ?_
        | refine HoldsT.drawn tabs ?_
        | refine HoldsT.yes rfl ?_
        | refine HoldsT.no rfl ?_
        | refine HoldsT.cond rfl (fun h => ?_) (fun h => ?_)
        | refine HoldsT.block ?_
        | refine HoldsT.ret ?_
        | refine HoldsT.skip ?_
        | refine HoldsT.exit ?_)
    | (refine okTr_intro ?_; kernel_rfl)
    | exact absurd rfl h
    | refine allProp_C ?_ ?_
    | refine And.intro ?_ ?_
    | omega
    | (show _ < List.length _; omega)
    | exact rowlen_intro rfl
    | exact lenEq_intro rfl
    | exact Nat.le_of_ble_eq_true rfl
    | (simp only [AV.rowlenD, AV.rowlen, AV.ncells, mulSz, toN, Option.map_some, Option.map_none, cutL, List.length_take, List.length_drop, List.length_append, List.length_cons, List.length_nil, List.length_set, Option.some.injEq, Int.reduceToNat] <;> omega))
  · exact FinC.te (y := .bool _) rfl rfl trivial (congrArg AV.bool (decide_eq_false (fun e => by subst e; omega)).symm)
  · refine HoldsT.loop (fun k : Int => sh81 a b k) (fun k => (a.length - k).toNat) (fun k => 0 ≤ k ∧ k ≤ a.length ∧ a.take k.toNat = b.take k.toNat) 0 ?_ ?_ (fun _ => by kernel_rfl) ?_
    · refine WeakT.of ?_ ?_ (by kernel_rfl)
      · repeat' (first | exact TTle.junk _ _ | exact TTle.same _ | refine TTle.node ?_ ?_ | refine TTle.leaf ?_ | exact AVle.junk _ | exact AVle.rfl' rfl | exact AVle.nilS | exact AVle.nilB)
      · repeat' (first | exact OOle.none _ _ | exact OOle.same _ | refine OOle.node ?_ ?_ | exact OOle.leaf _ | exact OOle.gone _)
    · exact ⟨by simp, by simp, by simp⟩
    · intro k hk
      obtain ⟨h1, h2, h3⟩ := hk
      show HoldsT Try.prog _ (sh81 a b k) _
      repeat' (first
        | refine allProp_T ?_
        | exact trivial
        | (refine URun.id ?_; first
            | refine URun.nil ?_
            | refine URun.many tabs rfl rfl (by kernel_rfl) ?_ ?_
            | refine URun.same tabs rfl rfl rfl ?_
            | refine URun.same2 tabs rfl rfl rfl ?_
            | refine URun.split tabs rfl rfl rfl rfl (fun h => ?_) (fun h => ?_))
        | (refine TRun.id ?_; first
            | refine TRun.nil ?_
            | refine TRun.many rfl rfl (by kernel_rfl) ?_ ?_
            | refine TRun.same rfl rfl rfl ?_
            | refine TRun.same2 rfl rfl rfl ?_
            | refine TRun.split rfl rfl rfl rfl (fun h => ?_) (fun h => ?_))
        | (refine HoldsT.id ?_; first
            | refine HoldsT.seq ?_
            | refine HoldsT.regionU ?_
            | refine HoldsT.drawn tabs ?_
            | refine HoldsT.yes rfl ?_
            | refine HoldsT.no rfl ?_
            | refine HoldsT.cond rfl (fun h => ?_) (fun h => ?_)
            | refine HoldsT.block ?_
            | refine HoldsT.ret ?_
            | refine HoldsT.skip ?_
            | refine HoldsT.exit ?_)
        | (refine okTr_intro ?_; kernel_rfl)
        | exact absurd rfl h
        | refine allProp_C ?_ ?_
        | refine And.intro ?_ ?_
        | omega
        | (show _ < List.length _; omega)
        | exact rowlen_intro rfl
        | exact lenEq_intro rfl
        | exact Nat.le_of_ble_eq_true rfl
        | (simp only [AV.rowlenD, AV.rowlen, AV.ncells, mulSz, toN, Option.map_some, Option.map_none, cutL, List.length_take, List.length_drop, List.length_append, List.length_cons, List.length_nil, List.length_set, Option.some.injEq, Int.reduceToNat] <;> omega))
      · exact FinC.te (y := .bool _) rfl rfl trivial (congrArg AV.bool (decide_eq_false (fun e => by subst e; exact h rfl)).symm)
      · refine ⟨k + 1, ⟨by omega, by omega, by omega, ?_⟩, ?_⟩
        · rw [toNat_succ h1]; exact take_succ_eq (d := []) h3 (by omega) (by omega) (Classical.not_not.1 h)
        · refine WeakT.of ?_ ?_ (by kernel_rfl)
          · repeat' (first | exact TTle.junk _ _ | exact TTle.same _ | refine TTle.node ?_ ?_ | refine TTle.leaf ?_ | exact AVle.junk _ | exact AVle.rfl' rfl | exact AVle.nilS | exact AVle.nilB)
          · repeat' (first | exact OOle.none _ _ | exact OOle.same _ | refine OOle.node ?_ ?_ | exact OOle.leaf _ | exact OOle.gone _)
      · refine FinC.te (y := .bool _) rfl rfl trivial (congrArg AV.bool (decide_eq_true ?_).symm)
        rw [List.take_of_length_le (by omega), List.take_of_length_le (by omega)] at h3
        exact h3

/-- A change that is done. -/
def appOk (ls : List (List UInt8)) (at' : Int) (old new : List (List UInt8)) : Bool :=
  decide (0 ≤ at' ∧ at' ≤ ls.length ∧ (old.length : Int) ≤ ls.length - at' ∧ midL ls at' old.length = old ∧ (ls.length : Int) - old.length + new.length ≠ 0)
def appL (ls : List (List UInt8)) (at' : Int) (old new : List (List UInt8)) : List (List UInt8) :=
  if appOk ls at' old new = true then cutL ls none (some at'.toNat) ++ new ++ cutL ls (some (at' + old.length).toNat) none else []

theorem appNo {ls old new : List (List UInt8)} {a : Int} (h : appOk ls a old new = false) : AVle (.tup [.nilsl, .bool false]) (.tup [.slS (appL ls a old new), .bool (appOk ls a old new)]) := by
  rw [appL, h]
  exact .tup (.cons .nilS (.cons (.refl _) .nil))
theorem appYes {ls old new : List (List UInt8)} {a : Int} (h : appOk ls a old new = true) : AVle (.tup [.slS (cutL ls none (some a.toNat) ++ new ++ cutL ls (some (a + old.length).toNat) none), .bool true]) (.tup [.slS (appL ls a old new), .bool (appOk ls a old new)]) := by
  rw [appL, h]
  exact .refl _

set_option maxRecDepth 10000 in
set_option maxHeartbeats 8000000 in
theorem p64 (ls old new : List (List UInt8)) (a : Int) (hl : ls.length ≤ 1000000000) (ho : old.length ≤ 1000000000) (hn : new.length ≤ 1000000000) : Pure Try.prog 64 [.slS ls, .agg [.int .i64 a, .slS old, .slS new]] (.tup [.slS (appL ls a old new), .bool (appOk ls a old new)]) := by
  have k81 := p81 (cutL ls (some a.toNat) (some (a + old.length).toNat)) old (by have := cutL_le ls (some a.toNat) (some (a + old.length).toNat); omega)
  refine Pure.ofT tab_ok Try.func64 rfl rfl [.tmp 4, .tmp 5] rfl (by decide) rfl ⟨75, 7, (.node (.node (.node (.node (.node (.node (.node (.leaf (.slS ls)) (J 0)) (J 1)) (J 2)) (J 3)) (J 4)) (J 5)) (.node (.node (.node (.node (.node (.node (.leaf (.agg [.int .i64 a, .slS old, .slS new])) (J 0)) (J 1)) (J 2)) (J 3)) (J 4)) (J 5))), (OO 7)⟩ (by kernel_rfl) (by kernel_rfl) ?_
  repeat' (first
    | refine allProp_T ?_
    | exact trivial
    | (refine URun.id ?_; first
        | refine URun.nil ?_
        | refine URun.many tabs rfl rfl (by kernel_rfl) ?_ ?_
        | (refine URun.toCall 81 rfl ?_; first
          | refine URun.callB tabs rfl rfl rfl rfl k81 rfl rfl ?_ rfl rfl (fun h => ?_) (fun h => ?_))
        | refine URun.same tabs rfl rfl rfl ?_
        | refine URun.same2 tabs rfl rfl rfl ?_
        | refine URun.split tabs rfl rfl rfl rfl (fun h => ?_) (fun h => ?_))
    | (refine TRun.id ?_; first
        | refine TRun.nil ?_
        | refine TRun.many rfl rfl (by kernel_rfl) ?_ ?_
        | (refine TRun.toCall 81 rfl ?_; first
          | refine TRun.callB rfl rfl rfl rfl k81 rfl rfl ?_ rfl rfl (fun h => ?_) (fun h => ?_))
        | refine TRun.same rfl rfl rfl ?_
        | refine TRun.same2 rfl rfl rfl ?_
        | refine TRun.split rfl rfl rfl rfl (fun h => ?_) (fun h => ?_))
    | (refine HoldsT.id ?_; first
        | refine HoldsT.seq ?_
        | refine HoldsT.regionU ?_
        | refine HoldsT.drawn tabs ?_
        | refine HoldsT.yes rfl ?_
        | refine HoldsT.no rfl ?_
        | refine HoldsT.cond rfl (fun h => ?_) (fun h => ?_)
        | refine HoldsT.block ?_
        | refine HoldsT.ret ?_
        | refine HoldsT.skip ?_
        | refine HoldsT.exit ?_)
    | (refine okTr_intro ?_; kernel_rfl)
    | exact absurd rfl h
    | refine allProp_C ?_ ?_
    | refine And.intro ?_ ?_
    | omega
    | (show _ < List.length _; omega)
    | exact rowlen_intro rfl
    | exact lenEq_intro rfl
    | exact Nat.le_of_ble_eq_true rfl
    | (simp only [AV.rowlenD, AV.rowlen, AV.ncells, mulSz, toN, Option.map_some, Option.map_none, cutL, List.length_take, List.length_drop, List.length_append, List.length_cons, List.length_nil, List.length_set, Option.some.injEq, Int.reduceToNat] <;> omega))
  all_goals first
    | exact FinC.t (y := .tup [.nilsl, .bool _]) rfl rfl ⟨trivial, trivial, trivial⟩ (appNo (decide_eq_false (fun hh => by omega)))
    | exact FinC.t (y := .tup [.nilsl, .bool _]) rfl rfl ⟨trivial, trivial, trivial⟩ (appNo (decide_eq_false (fun hh => (of_decide_eq_false h) hh.2.2.2.1)))
    | (have hm := of_decide_eq_true ‹decide (cutL ls (some a.toNat) (some (a + old.length).toNat) = old) = true›
       refine FinC.t (y := .tup [.slS _, .bool true]) rfl rfl ⟨⟨?_, trivial⟩, trivial, trivial⟩ (appYes (decide_eq_true ⟨by omega, by omega, by omega, hm, by omega⟩))
       simp only [AV.rowlenD, AV.rowlen, AV.ncells, mulSz, toN, Option.map_some, Option.map_none, cutL, List.length_take, List.length_drop, List.length_append, List.length_cons, List.length_nil, List.length_set, Option.some.injEq, Int.reduceToNat])

end Go.Proofs.Ytefbgdnobnemkaa.AM

namespace Go.Proofs.Ytefbgdnobnemkaa.AM
open Go Go.RowKit

theorem rowG3 (a b c : AV) : (AV.slG 3 [a, b, c]).rowlen = some ([a, b, c].length / 3) := by simp [AV.rowlen]
theorem d3a (a b c : AV) : (0 : Int) < (([a, b, c].length / 3 : Nat) : Int) := by simp
theorem d3b (a b c : AV) : ¬ (0 + 1 : Int) < (([a, b, c].length / 3 : Nat) : Int) := by simp
set_option maxRecDepth 10000 in
set_option maxHeartbeats 8000000 in
theorem p41 (ls old new : List (List UInt8)) (a : Int) (hl : ls.length ≤ 1000000000) (ho : old.length ≤ 1000000000) (hn : new.length ≤ 1000000000) : Pure Try.prog 41 [.slS ls, .slG 3 [.int .i64 a, .slS old, .slS new]] (.tup [.slS (appL ls a old new), .bool (appOk ls a old new)]) := by
  have k64 := p64 ls old new a hl ho hn
  refine Pure.ofT tab_ok Try.func41 rfl rfl [.tmp 4, .tmp 5] rfl (by decide) rfl ⟨29, 5, (.node (.node (.node (.node (.node (.leaf (.slS ls)) (J 0)) (J 1)) (J 2)) (J 3)) (.node (.node (.node (.node (.leaf (.slG 3 [.int .i64 a, .slS old, .slS new])) (J 0)) (J 1)) (J 2)) (J 3))), (OO 5)⟩ (by kernel_rfl) (by kernel_rfl) ?_
  repeat' (first
    | refine allProp_T ?_
    | exact trivial
    | (refine URun.id ?_; first
        | refine URun.nil ?_
        | refine URun.many tabs rfl rfl (by kernel_rfl) ?_ ?_
        | (refine URun.toCall 64 rfl ?_; first
          | refine URun.call tabs rfl rfl rfl rfl k64 rfl rfl ?_ rfl ?_)
        | refine URun.same tabs rfl rfl rfl ?_
        | refine URun.same2 tabs rfl rfl rfl ?_
        | refine URun.yes tabs rfl rfl (d3a _ _ _) rfl ?_
        | refine URun.no tabs rfl rfl (d3a _ _ _) rfl ?_
        | refine URun.yes tabs rfl rfl (d3b _ _ _) rfl ?_
        | refine URun.no tabs rfl rfl (d3b _ _ _) rfl ?_
        | refine URun.split tabs rfl rfl rfl rfl (fun h => ?_) (fun h => ?_))
    | (refine TRun.id ?_; first
        | refine TRun.nil ?_
        | refine TRun.many rfl rfl (by kernel_rfl) ?_ ?_
        | (refine TRun.toCall 64 rfl ?_; first
          | refine TRun.call rfl rfl rfl rfl k64 rfl rfl ?_ rfl ?_)
        | refine TRun.same rfl rfl rfl ?_
        | refine TRun.same2 rfl rfl rfl ?_
        | refine TRun.yes rfl rfl (d3a _ _ _) rfl ?_
        | refine TRun.no rfl rfl (d3a _ _ _) rfl ?_
        | refine TRun.yes rfl rfl (d3b _ _ _) rfl ?_
        | refine TRun.no rfl rfl (d3b _ _ _) rfl ?_
        | refine TRun.split rfl rfl rfl rfl (fun h => ?_) (fun h => ?_))
    | (refine HoldsT.id ?_; first
        | refine HoldsT.seq ?_
        | refine HoldsT.regionU ?_
        | refine HoldsT.drawn tabs ?_
        | refine HoldsT.yes rfl ?_
        | refine HoldsT.no rfl ?_
        | refine HoldsT.cond rfl (fun h => ?_) (fun h => ?_)
        | refine HoldsT.block ?_
        | refine HoldsT.ret ?_
        | refine HoldsT.skip ?_
        | refine HoldsT.exit ?_)
    | refine HoldsT.rounds 2 ?_
    | refine HoldsT.round ?_
    | (refine okTr_intro ?_; kernel_rfl)
    | exact absurd rfl h
    | exact rowG3 _ _ _
    | refine allProp_C ?_ ?_
    | refine And.intro ?_ ?_
    | omega
    | (show _ < List.length _; omega)
    | exact rowlen_intro rfl
    | exact lenEq_intro rfl
    | exact Nat.le_of_ble_eq_true rfl
    | (simp only [AV.rowlenD, AV.rowlen, AV.ncells, mulSz, toN, Option.map_some, Option.map_none, cutL, List.length_take, List.length_drop, List.length_append, List.length_cons, List.length_nil, List.length_set, Option.some.injEq, Int.reduceToNat] <;> omega))
  · refine FinC.t (y := .tup [.nilsl, .bool _]) rfl rfl ⟨trivial, trivial, trivial⟩ (appNo ?_)
    simpa using h
  · have h' : appOk ls a old new = true := by simpa using h
    rw [h']
    exact FinC.te (y := .tup [.slS _, .bool _]) rfl rfl ⟨trivial, trivial, trivial⟩ rfl

/-- Keys, one by one, from a place on, in Insert. -/
structure TdR where
  ls : List (List UInt8)
  l : Int
  c : Int
def typedStep (l0 c0 : Int) (s : Option TdR) (k : UInt8) : Option TdR :=
  match s with
  | none => none
  | some s => let r := typeL s.ls s.l s.c l0 c0 1 k.toNat
    if (r.ok && appOk s.ls r.at' r.old r.new) = true then some ⟨appL s.ls r.at' r.old r.new, r.l, r.c⟩ else none
def typedL (ls : List (List UInt8)) (l0 c0 : Int) (ks : List UInt8) : Option TdR := ks.foldl (typedStep l0 c0) (some ⟨ls, l0, c0⟩)

theorem typedL_succ (ls : List (List UInt8)) (l0 c0 : Int) (ks : List UInt8) (i : Nat) (h : i < ks.length) : typedL ls l0 c0 (ks.take (i + 1)) = typedStep l0 c0 (typedL ls l0 c0 (ks.take i)) (ks.getD i 0) := by
  unfold typedL
  rw [List.take_add_one, List.getElem?_eq_getElem h, List.foldl_append]
  simp [h]
theorem typedL_none (ls : List (List UInt8)) (l0 c0 : Int) (ks : List UInt8) (i : Nat) (h : typedL ls l0 c0 (ks.take i) = none) : typedL ls l0 c0 ks = none := by
  have e : ks = ks.take i ++ ks.drop i := (List.take_append_drop i ks).symm
  unfold typedL at h ⊢
  rw [e, List.foldl_append, h]
  have : ∀ l : List UInt8, l.foldl (typedStep l0 c0) none = none := by
    intro l
    induction l with
    | nil => rfl
    | cons x l ih => exact ih
  exact this _

def tdAV (r : Option TdR) : AV := match r with
  | some r => .tup [.slS r.ls, .agg [.int .i64 r.l, .int .i64 r.c], .bool true]
  | none => .tup [.slS [], .agg [.int .i64 0, .int .i64 0], .bool false]

def sh40 (ks : List UInt8) (l0 c0 : Int) (s : TdR) (i : Int) : TS := ⟨53, 6, (.node (.node (.node (.node (.node (.node (.leaf (.slS s.ls)) (J 0)) (J 1)) (.node (.node (.leaf (.bool false)) (J 0)) (J 1))) (.node (.node (.node (.leaf (.ptr 4 0)) (J 0)) (J 1)) (J 2))) (.node (.node (.node (.node (.leaf (.slB ks)) (J 0)) (J 1)) (.node (.node (.leaf (.int .i64 i)) (J 0)) (J 1))) (.node (.node (.node (.leaf (.nilsl)) (J 0)) (J 1)) (J 2)))) (.node (.node (.node (.node (.node (.leaf (.agg [.int .i64 l0, .int .i64 c0])) (J 0)) (J 1)) (.node (.node (.leaf (.ptr 9 0)) (J 0)) (J 1))) (J 3)) (.node (J 3) (.node (.node (.node (.leaf (.ptr 7 0)) (J 0)) (J 1)) (J 2))))), (.node (.node (.node (OO 3) (.node (.node (.node (.leaf (some ⟨true, false, .agg [.int .i64 l0, .int .i64 c0], 23⟩)) (OO 0)) (OO 1)) (OO 2))) (OO 4)) (.node (.node (.node (OO 2) (.node (.node (.leaf (some ⟨true, false, .agg [.int .i64 s.l, .int .i64 s.c], 23⟩)) (OO 0)) (OO 1))) (OO 3)) (.node (OO 3) (.node (.node (.node (.leaf (some ⟨true, false, .agg [.int .i64 0, .int .i64 0], 23⟩)) (OO 0)) (OO 1)) (OO 2)))))⟩

theorem typeL_small {ls : List (List UInt8)} {l c fl fc m k : Int} {b : Nat} (hb : ∀ n : Nat, (ls.getD n []).length ≤ b) : (typeL ls l c fl fc m k).old.length ≤ 1 ∧ (typeL ls l c fl fc m k).new.length ≤ 2 ∧ ∀ n : Nat, ((typeL ls l c fl fc m k).new.getD n []).length ≤ b + 1 := by
  have h := hb l.toNat
  have one : ∀ (x : List UInt8), x.length ≤ b + 1 → ∀ n : Nat, (([x] : List (List UInt8)).getD n []).length ≤ b + 1 := fun x hx n => by
    match n with
    | 0 => simpa using hx
    | n + 1 => simp
  have two' : ∀ (x y : List UInt8), x.length ≤ b + 1 → y.length ≤ b + 1 → ∀ n : Nat, (([x, y] : List (List UInt8)).getD n []).length ≤ b + 1 := fun x y hx hy n => by
    match n with
    | 0 => simpa using hx
    | 1 => simpa using hy
    | n + 2 => simp
  unfold typeL
  (repeat' split)
  · exact ⟨by simp, by simp, one _ (by simp only [List.length_append, List.length_cons, List.length_take, List.length_drop]; omega)⟩
  · exact ⟨by simp, by simp, one _ (by simp only [List.length_append, List.length_cons, List.length_take, List.length_drop]; omega)⟩
  · exact ⟨by simp, by simp, two' _ _ (by rw [List.length_take]; omega) (by rw [List.length_drop]; omega)⟩
  · exact ⟨by simp, by simp, one _ (by simp only [List.length_append, List.length_take, List.length_drop]; omega)⟩
  · exact ⟨by simp [tyNo], by simp [tyNo], fun n => by simp [tyNo]⟩
  · exact ⟨by simp [tyNo], by simp [tyNo], fun n => by simp [tyNo]⟩

theorem getD_append_le {x y : List (List UInt8)} {b : Nat} (hx : ∀ n : Nat, (x.getD n []).length ≤ b) (hy : ∀ n : Nat, (y.getD n []).length ≤ b) (n : Nat) : ((x ++ y).getD n []).length ≤ b := by
  simp only [List.getD_eq_getElem?_getD] at *
  rw [List.getElem?_append]
  split
  · exact hx n
  · exact hy _
theorem getD_cut_le {x : List (List UInt8)} {b : Nat} (hx : ∀ n : Nat, (x.getD n []).length ≤ b) (p q : Option Nat) (n : Nat) : ((cutL x p q).getD n []).length ≤ b := by
  have tk : ∀ (y : List (List UInt8)) (k : Nat), (∀ n : Nat, (y.getD n []).length ≤ b) → ∀ n : Nat, ((y.take k).getD n []).length ≤ b := fun y k hy n => by
    simp only [List.getD_eq_getElem?_getD] at *
    rw [List.getElem?_take]
    split
    · exact hy n
    · simp
  have dr : ∀ (y : List (List UInt8)) (k : Nat), (∀ n : Nat, (y.getD n []).length ≤ b) → ∀ n : Nat, ((y.drop k).getD n []).length ≤ b := fun y k hy n => by
    simp only [List.getD_eq_getElem?_getD] at *
    rw [List.getElem?_drop]
    exact hy _
  cases p <;> cases q <;> simp only [cutL]
  · exact hx n
  · exact tk _ _ hx n
  · exact dr _ _ hx n
  · exact dr _ _ (tk _ _ hx) n
theorem appL_small {ls old new : List (List UInt8)} {a : Int} {b : Nat} (hb : ∀ n : Nat, (ls.getD n []).length ≤ b) (hn : ∀ n : Nat, (new.getD n []).length ≤ b) : (appL ls a old new).length ≤ ls.length + new.length ∧ ∀ n : Nat, ((appL ls a old new).getD n []).length ≤ b := by
  unfold appL
  split
  · rename_i h
    have h' := of_decide_eq_true h
    refine ⟨?_, getD_append_le (getD_append_le (getD_cut_le hb _ _) hn) (getD_cut_le hb _ _)⟩
    simp only [cutL, List.length_append, List.length_take, List.length_drop]
    omega
  · exact ⟨by simp, fun n => by simp⟩

theorem rowGk {sz n : Nat} {cs : List AV} {a b c : AV} (hs : sz = 3) (h : cs = [a, b, c]) (hn : n = 1) : (AV.slG sz cs).rowlen = some n := by subst hs h hn; simp [AV.rowlen]
theorem tdNo {ls : List (List UInt8)} {l0 c0 : Int} {ks : List UInt8} (h : typedL ls l0 c0 ks = none) : AVle (.tup [.nilsl, .agg [.int .i64 0, .int .i64 0], .bool false]) (tdAV (typedL ls l0 c0 ks)) := by
  rw [h]
  exact .tup (.cons .nilS (.cons (.refl _) (.cons (.refl _) .nil)))

set_option maxRecDepth 10000 in
set_option maxHeartbeats 8000000 in
theorem p40 (ls : List (List UInt8)) (l0 c0 : Int) (ks : List UInt8) (hl : ls.length ≤ 1000000) (hB : ∀ n : Nat, (ls.getD n []).length ≤ 1000000) (hk : ks.length ≤ 1000000) : Pure Try.prog 40 [.slS ls, .agg [.int .i64 l0, .int .i64 c0], .slB ks] (tdAV (typedL ls l0 c0 ks)) := by
  have hm : ∀ r, (tdAV r).ments = [] := fun r => by cases r <;> rfl
  refine Pure.ofT tab_ok Try.func40 rfl rfl [.tmp 6, .cell 7 23, .tmp 8] rfl (by decide) (hm _) ⟨53, 6, (.node (.node (.node (.node (.node (.node (.leaf (.slS ls)) (J 0)) (J 1)) (J 2)) (J 3)) (.node (.node (.node (.node (.leaf (.slB ks)) (J 0)) (J 1)) (J 2)) (J 3))) (.node (.node (.node (.node (.node (.leaf (.agg [.int .i64 l0, .int .i64 c0])) (J 0)) (J 1)) (J 2)) (J 3)) (J 4))), (OO 6)⟩ (by kernel_rfl) (by kernel_rfl) ?_
  repeat' (first
    | refine allProp_T ?_
    | exact trivial
    | (refine URun.id ?_; first
        | refine URun.nil ?_
        | refine URun.many tabs rfl rfl (by kernel_rfl) ?_ ?_
        | refine URun.same tabs rfl rfl rfl ?_
        | refine URun.same2 tabs rfl rfl rfl ?_
        | refine URun.split tabs rfl rfl rfl rfl (fun h => ?_) (fun h => ?_))
    | (refine TRun.id ?_; first
        | refine TRun.nil ?_
        | refine TRun.many rfl rfl (by kernel_rfl) ?_ ?_
        | refine TRun.same rfl rfl rfl ?_
        | refine TRun.same2 rfl rfl rfl ?_
        | refine TRun.split rfl rfl rfl rfl (fun h => ?_) (fun h => ?_))
    | (refine HoldsT.id ?_; first
        | refine HoldsT.seq ?_
        | refine HoldsT.regionU ?_
        | refine HoldsT.drawn tabs ?_
        | refine HoldsT.yes rfl ?_
        | refine HoldsT.no rfl ?_
        | refine HoldsT.cond rfl (fun h => ?_) (fun h => ?_)
        | refine HoldsT.block ?_
        | refine HoldsT.ret ?_
        | refine HoldsT.skip ?_
        | refine HoldsT.exit ?_)
    | (refine okTr_intro ?_; kernel_rfl)
    | exact absurd rfl h
    | refine allProp_C ?_ ?_
    | refine And.intro ?_ ?_
    | omega
    | (show _ < List.length _; omega)
    | exact rowlen_intro rfl
    | exact lenEq_intro rfl
    | exact Nat.le_of_ble_eq_true rfl
    | (simp only [AV.rowlenD, AV.rowlen, AV.ncells, mulSz, toN, Option.map_some, Option.map_none, cutL, List.length_take, List.length_drop, List.length_append, List.length_cons, List.length_nil, List.length_set, Option.some.injEq, Int.reduceToNat] <;> omega))
  refine HoldsT.loop (fun x : TdR × Int => sh40 ks l0 c0 x.1 x.2) (fun x => (ks.length - x.2).toNat) (fun x => 0 ≤ x.2 ∧ x.2 ≤ ks.length ∧ typedL ls l0 c0 (ks.take x.2.toNat) = some x.1 ∧ (x.1.ls.length : Int) ≤ ls.length + 2 * x.2 ∧ ∀ n : Nat, (x.1.ls.getD n []).length ≤ 1000000 + x.2.toNat) (⟨ls, l0, c0⟩, 0) ?_ ?_ (fun _ => by kernel_rfl) ?_
  · refine WeakT.of ?_ ?_ (by kernel_rfl)
    · repeat' (first | exact TTle.junk _ _ | exact TTle.same _ | refine TTle.node ?_ ?_ | refine TTle.leaf ?_ | exact AVle.junk _ | exact AVle.rfl' rfl | exact AVle.nilS | exact AVle.nilB)
    · repeat' (first | exact OOle.none _ _ | exact OOle.same _ | refine OOle.node ?_ ?_ | exact OOle.leaf _ | exact OOle.gone _)
  · exact ⟨by simp, by simp, rfl, by simp, fun n => by have := hB n; simp only; omega⟩
  · intro x hx
    obtain ⟨⟨cur, l, c⟩, i⟩ := x
    obtain ⟨h1, h2, h3, h4, h5⟩ := hx
    simp only at h1 h2 h3 h4 h5
    have hz : ∀ b : UInt8, inK .u8 (b.toNat : Int) := fun b => ⟨by omega, by have := b.toNat_lt; omega⟩
    show HoldsT Try.prog _ (sh40 ks l0 c0 ⟨cur, l, c⟩ i) _
    rcases htr : typeL cur l c l0 c0 1 ((ks.getD i.toNat 0).toNat : Int) with ⟨ok, a, old, new, l', c'⟩
    have k35 := p35 cur l c l0 c0 1 ((ks.getD i.toNat 0).toNat : Int) (by omega) (fun n => by have := h5 n; omega) (hz _)
    have hsm := typeL_small (ls := cur) (l := l) (c := c) (fl := l0) (fc := c0) (m := 1) (k := ((ks.getD i.toNat 0).toNat : Int)) h5
    rw [htr] at k35 hsm
    obtain ⟨s1, s2, s3⟩ := hsm
    have s4 := appL_small (ls := cur) (old := old) (new := new) (a := a) (b := 1000000 + i.toNat + 1) (fun n => by have := h5 n; omega) s3
    simp only at s1 s2
    have k41 := p41 cur old new a (by omega) (by omega) (by omega)
    have hst : i < ks.length → typedL ls l0 c0 (ks.take (i.toNat + 1)) = (if (ok && appOk cur a old new) = true then some ⟨appL cur a old new, l', c'⟩ else none) := fun hi => by
      rw [typedL_succ _ _ _ _ _ (by omega), h3]
      simp only [typedStep, htr]
    cases ok with
    | false =>
      cases hap : appOk cur a old new with
      | false =>
        rw [hap] at k41 hst
        repeat' (first
          | refine allProp_T ?_
          | exact trivial
          | (refine URun.id ?_; first
              | refine URun.nil ?_
              | refine URun.many tabs rfl rfl (by kernel_rfl) ?_ ?_
              | (refine URun.toCall 35 rfl ?_; first
                | refine URun.call tabs rfl rfl rfl rfl k35 rfl rfl ?_ rfl ?_)
              | (refine URun.toCall 41 rfl ?_; first
                | refine URun.call tabs rfl rfl rfl rfl k41 rfl rfl ?_ rfl ?_)
              | refine URun.same tabs rfl rfl rfl ?_
              | refine URun.same2 tabs rfl rfl rfl ?_
              | refine URun.split tabs rfl rfl rfl rfl (fun h => ?_) (fun h => ?_))
          | (refine TRun.id ?_; first
              | refine TRun.nil ?_
              | refine TRun.many rfl rfl (by kernel_rfl) ?_ ?_
              | (refine TRun.toCall 35 rfl ?_; first
                | refine TRun.call rfl rfl rfl rfl k35 rfl rfl ?_ rfl ?_)
              | (refine TRun.toCall 41 rfl ?_; first
                | refine TRun.call rfl rfl rfl rfl k41 rfl rfl ?_ rfl ?_)
              | refine TRun.same rfl rfl rfl ?_
              | refine TRun.same2 rfl rfl rfl ?_
              | refine TRun.split rfl rfl rfl rfl (fun h => ?_) (fun h => ?_))
          | (refine HoldsT.id ?_; first
              | refine HoldsT.seq ?_
              | refine HoldsT.regionU ?_
              | refine HoldsT.drawn tabs ?_
              | refine HoldsT.yes rfl ?_
              | refine HoldsT.no rfl ?_
              | refine HoldsT.cond rfl (fun h => ?_) (fun h => ?_)
              | refine HoldsT.block ?_
              | refine HoldsT.ret ?_
              | refine HoldsT.skip ?_
              | refine HoldsT.exit ?_)
          | (refine okTr_intro ?_; kernel_rfl)
          | exact absurd rfl h
          | exact rowGk rfl rfl rfl
          | refine allProp_C ?_ ?_
          | refine And.intro ?_ ?_
          | omega
          | (show _ < List.length _; omega)
          | exact rowlen_intro rfl
          | exact lenEq_intro rfl
          | exact Nat.le_of_ble_eq_true rfl
          | (simp only [AV.rowlenD, AV.rowlen, AV.ncells, mulSz, toN, Option.map_some, Option.map_none, cutL, List.length_take, List.length_drop, List.length_append, List.length_cons, List.length_nil, List.length_set, Option.some.injEq, Int.reduceToNat] <;> omega))
        all_goals first
          | (have hn := typedL_none ls l0 c0 ks (i.toNat + 1) ((hst h).trans rfl)
             exact FinC.t (y := .tup [.nilsl, .agg [.int .i64 _, .int .i64 _], .bool _]) rfl rfl ⟨trivial, ⟨trivial, trivial, trivial⟩, trivial, trivial⟩ (tdNo hn))
          | (refine FinC.te (y := .tup [.slS _, .agg [.int .i64 _, .int .i64 _], .bool _]) rfl rfl ⟨trivial, ⟨trivial, trivial, trivial⟩, trivial, trivial⟩ ?_
             rw [List.take_of_length_le (by omega)] at h3
             rw [h3]; rfl)
      | true =>
        rw [hap] at k41 hst
        repeat' (first
          | refine allProp_T ?_
          | exact trivial
          | (refine URun.id ?_; first
              | refine URun.nil ?_
              | refine URun.many tabs rfl rfl (by kernel_rfl) ?_ ?_
              | (refine URun.toCall 35 rfl ?_; first
                | refine URun.call tabs rfl rfl rfl rfl k35 rfl rfl ?_ rfl ?_)
              | (refine URun.toCall 41 rfl ?_; first
                | refine URun.call tabs rfl rfl rfl rfl k41 rfl rfl ?_ rfl ?_)
              | refine URun.same tabs rfl rfl rfl ?_
              | refine URun.same2 tabs rfl rfl rfl ?_
              | refine URun.split tabs rfl rfl rfl rfl (fun h => ?_) (fun h => ?_))
          | (refine TRun.id ?_; first
              | refine TRun.nil ?_
              | refine TRun.many rfl rfl (by kernel_rfl) ?_ ?_
              | (refine TRun.toCall 35 rfl ?_; first
                | refine TRun.call rfl rfl rfl rfl k35 rfl rfl ?_ rfl ?_)
              | (refine TRun.toCall 41 rfl ?_; first
                | refine TRun.call rfl rfl rfl rfl k41 rfl rfl ?_ rfl ?_)
              | refine TRun.same rfl rfl rfl ?_
              | refine TRun.same2 rfl rfl rfl ?_
              | refine TRun.split rfl rfl rfl rfl (fun h => ?_) (fun h => ?_))
          | (refine HoldsT.id ?_; first
              | refine HoldsT.seq ?_
              | refine HoldsT.regionU ?_
              | refine HoldsT.drawn tabs ?_
              | refine HoldsT.yes rfl ?_
              | refine HoldsT.no rfl ?_
              | refine HoldsT.cond rfl (fun h => ?_) (fun h => ?_)
              | refine HoldsT.block ?_
              | refine HoldsT.ret ?_
              | refine HoldsT.skip ?_
              | refine HoldsT.exit ?_)
          | (refine okTr_intro ?_; kernel_rfl)
          | exact absurd rfl h
          | exact rowGk rfl rfl rfl
          | refine allProp_C ?_ ?_
          | refine And.intro ?_ ?_
          | omega
          | (show _ < List.length _; omega)
          | exact rowlen_intro rfl
          | exact lenEq_intro rfl
          | exact Nat.le_of_ble_eq_true rfl
          | (simp only [AV.rowlenD, AV.rowlen, AV.ncells, mulSz, toN, Option.map_some, Option.map_none, cutL, List.length_take, List.length_drop, List.length_append, List.length_cons, List.length_nil, List.length_set, Option.some.injEq, Int.reduceToNat] <;> omega))
        all_goals first
          | (have hn := typedL_none ls l0 c0 ks (i.toNat + 1) ((hst h).trans rfl)
             exact FinC.t (y := .tup [.nilsl, .agg [.int .i64 _, .int .i64 _], .bool _]) rfl rfl ⟨trivial, ⟨trivial, trivial, trivial⟩, trivial, trivial⟩ (tdNo hn))
          | (refine FinC.te (y := .tup [.slS _, .agg [.int .i64 _, .int .i64 _], .bool _]) rfl rfl ⟨trivial, ⟨trivial, trivial, trivial⟩, trivial, trivial⟩ ?_
             rw [List.take_of_length_le (by omega)] at h3
             rw [h3]; rfl)
    | true =>
      cases hap : appOk cur a old new with
      | false =>
        rw [hap] at k41 hst
        repeat' (first
          | refine allProp_T ?_
          | exact trivial
          | (refine URun.id ?_; first
              | refine URun.nil ?_
              | refine URun.many tabs rfl rfl (by kernel_rfl) ?_ ?_
              | (refine URun.toCall 35 rfl ?_; first
                | refine URun.call tabs rfl rfl rfl rfl k35 rfl rfl ?_ rfl ?_)
              | (refine URun.toCall 41 rfl ?_; first
                | refine URun.call tabs rfl rfl rfl rfl k41 rfl rfl ?_ rfl ?_)
              | refine URun.same tabs rfl rfl rfl ?_
              | refine URun.same2 tabs rfl rfl rfl ?_
              | refine URun.split tabs rfl rfl rfl rfl (fun h => ?_) (fun h => ?_))
          | (refine TRun.id ?_; first
              | refine TRun.nil ?_
              | refine TRun.many rfl rfl (by kernel_rfl) ?_ ?_
              | (refine TRun.toCall 35 rfl ?_; first
                | refine TRun.call rfl rfl rfl rfl k35 rfl rfl ?_ rfl ?_)
              | (refine TRun.toCall 41 rfl ?_; first
                | refine TRun.call rfl rfl rfl rfl k41 rfl rfl ?_ rfl ?_)
              | refine TRun.same rfl rfl rfl ?_
              | refine TRun.same2 rfl rfl rfl ?_
              | refine TRun.split rfl rfl rfl rfl (fun h => ?_) (fun h => ?_))
          | (refine HoldsT.id ?_; first
              | refine HoldsT.seq ?_
              | refine HoldsT.regionU ?_
              | refine HoldsT.drawn tabs ?_
              | refine HoldsT.yes rfl ?_
              | refine HoldsT.no rfl ?_
              | refine HoldsT.cond rfl (fun h => ?_) (fun h => ?_)
              | refine HoldsT.block ?_
              | refine HoldsT.ret ?_
              | refine HoldsT.skip ?_
              | refine HoldsT.exit ?_)
          | (refine okTr_intro ?_; kernel_rfl)
          | exact absurd rfl h
          | exact rowGk rfl rfl rfl
          | refine allProp_C ?_ ?_
          | refine And.intro ?_ ?_
          | omega
          | (show _ < List.length _; omega)
          | exact rowlen_intro rfl
          | exact lenEq_intro rfl
          | exact Nat.le_of_ble_eq_true rfl
          | (simp only [AV.rowlenD, AV.rowlen, AV.ncells, mulSz, toN, Option.map_some, Option.map_none, cutL, List.length_take, List.length_drop, List.length_append, List.length_cons, List.length_nil, List.length_set, Option.some.injEq, Int.reduceToNat] <;> omega))
        all_goals first
          | (have hn := typedL_none ls l0 c0 ks (i.toNat + 1) ((hst h).trans rfl)
             exact FinC.t (y := .tup [.nilsl, .agg [.int .i64 _, .int .i64 _], .bool _]) rfl rfl ⟨trivial, ⟨trivial, trivial, trivial⟩, trivial, trivial⟩ (tdNo hn))
          | (refine FinC.te (y := .tup [.slS _, .agg [.int .i64 _, .int .i64 _], .bool _]) rfl rfl ⟨trivial, ⟨trivial, trivial, trivial⟩, trivial, trivial⟩ ?_
             rw [List.take_of_length_le (by omega)] at h3
             rw [h3]; rfl)
      | true =>
        rw [hap] at k41 hst
        repeat' (first
          | refine allProp_T ?_
          | exact trivial
          | (refine URun.id ?_; first
              | refine URun.nil ?_
              | refine URun.many tabs rfl rfl (by kernel_rfl) ?_ ?_
              | (refine URun.toCall 35 rfl ?_; first
                | refine URun.call tabs rfl rfl rfl rfl k35 rfl rfl ?_ rfl ?_)
              | (refine URun.toCall 41 rfl ?_; first
                | refine URun.call tabs rfl rfl rfl rfl k41 rfl rfl ?_ rfl ?_)
              | refine URun.same tabs rfl rfl rfl ?_
              | refine URun.same2 tabs rfl rfl rfl ?_
              | refine URun.split tabs rfl rfl rfl rfl (fun h => ?_) (fun h => ?_))
          | (refine TRun.id ?_; first
              | refine TRun.nil ?_
              | refine TRun.many rfl rfl (by kernel_rfl) ?_ ?_
              | (refine TRun.toCall 35 rfl ?_; first
                | refine TRun.call rfl rfl rfl rfl k35 rfl rfl ?_ rfl ?_)
              | (refine TRun.toCall 41 rfl ?_; first
                | refine TRun.call rfl rfl rfl rfl k41 rfl rfl ?_ rfl ?_)
              | refine TRun.same rfl rfl rfl ?_
              | refine TRun.same2 rfl rfl rfl ?_
              | refine TRun.split rfl rfl rfl rfl (fun h => ?_) (fun h => ?_))
          | (refine HoldsT.id ?_; first
              | refine HoldsT.seq ?_
              | refine HoldsT.regionU ?_
              | refine HoldsT.drawn tabs ?_
              | refine HoldsT.yes rfl ?_
              | refine HoldsT.no rfl ?_
              | refine HoldsT.cond rfl (fun h => ?_) (fun h => ?_)
              | refine HoldsT.block ?_
              | refine HoldsT.ret ?_
              | refine HoldsT.skip ?_
              | refine HoldsT.exit ?_)
          | (refine okTr_intro ?_; kernel_rfl)
          | exact absurd rfl h
          | exact rowGk rfl rfl rfl
          | refine allProp_C ?_ ?_
          | refine And.intro ?_ ?_
          | omega
          | (show _ < List.length _; omega)
          | exact rowlen_intro rfl
          | exact lenEq_intro rfl
          | exact Nat.le_of_ble_eq_true rfl
          | (simp only [AV.rowlenD, AV.rowlen, AV.ncells, mulSz, toN, Option.map_some, Option.map_none, cutL, List.length_take, List.length_drop, List.length_append, List.length_cons, List.length_nil, List.length_set, Option.some.injEq, Int.reduceToNat] <;> omega))
        · refine ⟨(⟨appL cur a old new, l', c'⟩, i + 1), ⟨by simp only; omega, by simp only; omega, by simp only; omega, ?_, by simp only; omega, fun n => ?_⟩, ?_⟩
          · simp only; rw [toNat_succ h1, hst h]; rfl
          · simp only; have := s4.2 n; omega
          · refine WeakT.of ?_ ?_ (by kernel_rfl)
            · repeat' (first | exact TTle.junk _ _ | exact TTle.same _ | refine TTle.node ?_ ?_ | refine TTle.leaf ?_ | exact AVle.junk _ | exact AVle.rfl' rfl | exact AVle.nilS | exact AVle.nilB)
            · repeat' (first | exact OOle.none _ _ | exact OOle.same _ | refine OOle.node ?_ ?_ | exact OOle.leaf _ | exact OOle.gone _)
        all_goals first
          | (have hn := typedL_none ls l0 c0 ks (i.toNat + 1) ((hst h).trans rfl)
             exact FinC.t (y := .tup [.nilsl, .agg [.int .i64 _, .int .i64 _], .bool _]) rfl rfl ⟨trivial, ⟨trivial, trivial, trivial⟩, trivial, trivial⟩ (tdNo hn))
          | (refine FinC.te (y := .tup [.slS _, .agg [.int .i64 _, .int .i64 _], .bool _]) rfl rfl ⟨trivial, ⟨trivial, trivial, trivial⟩, trivial, trivial⟩ ?_
             rw [List.take_of_length_le (by omega)] at h3
             rw [h3]; rfl)

end Go.Proofs.Ytefbgdnobnemkaa.AM
