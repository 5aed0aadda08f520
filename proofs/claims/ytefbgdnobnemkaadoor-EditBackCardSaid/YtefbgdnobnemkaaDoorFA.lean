/-
  Places, ranges, changes: what the functions compute.
-/
import Derived.Test.YtefbgdnobnemkaaDoorTD
set_option linter.unusedSimpArgs false
set_option linter.unusedVariables false
set_option linter.unusedSectionVars false
namespace Go.Proofs.YtefbgdnobnemkaaDoor.AM
open Go Go.RowKit

def ltP (a b c d : Int) : Bool := decide (a < c ∨ (a = c ∧ b < d))
set_option maxRecDepth 10000 in
set_option maxHeartbeats 8000000 in
theorem p25 (a b c d : Int) : Pure Tryd.prog 59 [.agg [.int .i64 a, .int .i64 b], .agg [.int .i64 c, .int .i64 d]] (.bool (ltP a b c d)) := by
  refine Pure.ofT tab_ok Tryd.func59 rfl rfl [.tmp 4] rfl (by decide) rfl ⟨24, 5, (.node (.node (.node (.node (.node (.leaf (.agg [.int .i64 a, .int .i64 b])) (J 0)) (J 1)) (J 2)) (J 3)) (.node (.node (.node (.node (.leaf (.agg [.int .i64 c, .int .i64 d])) (J 0)) (J 1)) (J 2)) (J 3))), (OO 5)⟩ (by kernel_rfl) (by kernel_rfl) ?_
  repeat' (first
    | refine allProp_T ?_
    | exact trivial
    | (refine URun.id ?_; first
        | refine URun.nil ?_
        | refine URun.many tabs rfl rfl (by kernel_rfl) ?_ ?_
        | refine URun.same tabs rfl rfl rfl ?_
        | refine URun.same2 tabs rfl rfl rfl ?_
        | refine URun.split tabs rfl rfl rfl rfl (fun h => ?_) (fun h => ?_))
    | (refine TRun.id ?_; first
        | refine TRun.nil ?_
        | refine TRun.many rfl rfl (by kernel_rfl) ?_ ?_
        | refine TRun.same rfl rfl rfl ?_
        | refine TRun.same2 rfl rfl rfl ?_
        | refine TRun.split rfl rfl rfl rfl (fun h => ?_) (fun h => ?_))
    | (refine HoldsT.id ?_; first
        | refine HoldsT.seq ?_
        | refine HoldsT.regionU ?_
        | refine HoldsT.drawn tabs ?_
        | refine HoldsT.yes rfl ?_
        | refine HoldsT.no rfl ?_
        | refine HoldsT.cond rfl (fun h => ?_) (fun h => ?_)
        | refine HoldsT.block ?_
        | refine HoldsT.ret ?_
        | refine HoldsT.skip ?_
        | refine HoldsT.exit ?_)
    | (refine okTr_intro ?_; kernel_rfl)
    | exact absurd rfl h
    | refine allProp_C ?_ ?_
    | refine And.intro ?_ ?_
    | omega
    | (show _ < List.length _; omega)
    | exact rowlen_intro rfl
    | exact lenEq_intro rfl
    | exact Nat.le_of_ble_eq_true rfl
    | (simp only [AV.rowlenD, AV.rowlen, AV.ncells, mulSz, toN, Option.map_some, Option.map_none, cutL, List.length_take, List.length_drop, List.length_append, List.length_cons, List.length_nil, List.length_set, Option.some.injEq, Int.reduceToNat] <;> omega))
  all_goals refine FinC.te (y := .bool _) rfl rfl trivial (congrArg AV.bool ?_)
  all_goals (unfold ltP; symm; first | exact decide_eq_true (by omega) | exact decide_eq_false (by omega))
set_option maxRecDepth 10000 in
set_option maxHeartbeats 8000000 in
theorem p26 (a b c d : Int) : Pure Tryd.prog 60 [.agg [.int .i64 a, .int .i64 b], .agg [.int .i64 c, .int .i64 d]] (.bool (ltP a b c d)) := by
  refine Pure.ofT tab_ok Tryd.func60 rfl rfl [.tmp 4] rfl (by decide) rfl ⟨24, 5, (.node (.node (.node (.node (.node (.leaf (.agg [.int .i64 a, .int .i64 b])) (J 0)) (J 1)) (J 2)) (J 3)) (.node (.node (.node (.node (.leaf (.agg [.int .i64 c, .int .i64 d])) (J 0)) (J 1)) (J 2)) (J 3))), (OO 5)⟩ (by kernel_rfl) (by kernel_rfl) ?_
  repeat' (first
    | refine allProp_T ?_
    | exact trivial
    | (refine URun.id ?_; first
        | refine URun.nil ?_
        | refine URun.many tabs rfl rfl (by kernel_rfl) ?_ ?_
        | refine URun.same tabs rfl rfl rfl ?_
        | refine URun.same2 tabs rfl rfl rfl ?_
        | refine URun.split tabs rfl rfl rfl rfl (fun h => ?_) (fun h => ?_))
    | (refine TRun.id ?_; first
        | refine TRun.nil ?_
        | refine TRun.many rfl rfl (by kernel_rfl) ?_ ?_
        | refine TRun.same rfl rfl rfl ?_
        | refine TRun.same2 rfl rfl rfl ?_
        | refine TRun.split rfl rfl rfl rfl (fun h => ?_) (fun h => ?_))
    | (refine HoldsT.id ?_; first
        | refine HoldsT.seq ?_
        | refine HoldsT.regionU ?_
        | refine HoldsT.drawn tabs ?_
        | refine HoldsT.yes rfl ?_
        | refine HoldsT.no rfl ?_
        | refine HoldsT.cond rfl (fun h => ?_) (fun h => ?_)
        | refine HoldsT.block ?_
        | refine HoldsT.ret ?_
        | refine HoldsT.skip ?_
        | refine HoldsT.exit ?_)
    | (refine okTr_intro ?_; kernel_rfl)
    | exact absurd rfl h
    | refine allProp_C ?_ ?_
    | refine And.intro ?_ ?_
    | omega
    | (show _ < List.length _; omega)
    | exact rowlen_intro rfl
    | exact lenEq_intro rfl
    | exact Nat.le_of_ble_eq_true rfl
    | (simp only [AV.rowlenD, AV.rowlen, AV.ncells, mulSz, toN, Option.map_some, Option.map_none, cutL, List.length_take, List.length_drop, List.length_append, List.length_cons, List.length_nil, List.length_set, Option.some.injEq, Int.reduceToNat] <;> omega))
  all_goals refine FinC.te (y := .bool _) rfl rfl trivial (congrArg AV.bool ?_)
  all_goals (unfold ltP; symm; first | exact decide_eq_true (by omega) | exact decide_eq_false (by omega))
theorem toNat_succ {k : Int} (h : 0 ≤ k) : (k + 1).toNat = k.toNat + 1 := by omega
theorem take_succ_eq {α : Type} {a b : List α} {d : α} {k : Nat} (h : a.take k = b.take k) (ha : k < a.length) (hb : k < b.length) (he : a.getD k d = b.getD k d) : a.take (k + 1) = b.take (k + 1) := by
  rw [List.take_add_one, List.take_add_one, h]
  simp only [List.getD_eq_getElem?_getD, List.getElem?_eq_getElem ha, List.getElem?_eq_getElem hb, Option.getD_some] at he ⊢
  rw [he]
def sh30 (a b : List (List UInt8)) (k : Int) : TS := ⟨26, 5, (.node (.node (.node (.node (.node (.leaf (.slS a)) (J 0)) (J 1)) (J 2)) (J 3)) (.node (.node (.node (.node (.leaf (.slS b)) (J 0)) (J 1)) (.node (.node (.leaf (.int .i64 k)) (J 0)) (J 1))) (J 3))), (OO 5)⟩
set_option maxRecDepth 10000 in
set_option maxHeartbeats 8000000 in
theorem p30 (a b : List (List UInt8)) (ha : a.length ≤ 1000000000000) : Pure Tryd.prog 28 [.slS a, .slS b] (.bool (decide (a = b))) := by
  refine Pure.ofT tab_ok Tryd.func28 rfl rfl [.tmp 4] rfl (by decide) rfl ⟨26, 5, (.node (.node (.node (.node (.node (.leaf (.slS a)) (J 0)) (J 1)) (J 2)) (J 3)) (.node (.node (.node (.node (.leaf (.slS b)) (J 0)) (J 1)) (J 2)) (J 3))), (OO 5)⟩ (by kernel_rfl) (by kernel_rfl) ?_
  repeat' (first
    | refine allProp_T ?_
    | exact trivial
    | (refine URun.id ?_; first
        | refine URun.nil ?_
        | refine URun.many tabs rfl rfl (by kernel_rfl) ?_ ?_
        | refine URun.same tabs rfl rfl rfl ?_
        | refine URun.same2 tabs rfl rfl rfl ?_
        | refine URun.split tabs rfl rfl rfl rfl (fun h => ?_) (fun h => ?_))
    | (refine TRun.id ?_; first
        | refine TRun.nil ?_
        | refine TRun.many rfl rfl (by kernel_rfl) ?_ ?_
        | refine TRun.same rfl rfl rfl ?_
        | refine TRun.same2 rfl rfl rfl ?_
        | refine TRun.split rfl rfl rfl rfl (fun h => ?_) (fun h => ?_))
    | (refine HoldsT.id ?_; first
        | refine HoldsT.seq ?_
        | refine HoldsT.regionU ?_
        | refine HoldsT.drawn tabs ?_
        | refine HoldsT.yes rfl ?_
        | refine HoldsT.no rfl ?_
        | refine HoldsT.cond rfl (fun h => ?_) (fun h => ?_)
        | refine HoldsT.block ?_
        | refine HoldsT.ret ?_
        | refine HoldsT.skip ?_
        | refine HoldsT.exit ?_)
    | (refine okTr_intro ?_; kernel_rfl)
    | exact absurd rfl h
    | refine allProp_C ?_ ?_
    | refine And.intro ?_ ?_
    | omega
    | (show _ < List.length _; omega)
    | exact rowlen_intro rfl
    | exact lenEq_intro rfl
    | exact Nat.le_of_ble_eq_true rfl
    | (simp only [AV.rowlenD, AV.rowlen, AV.ncells, mulSz, toN, Option.map_some, Option.map_none, cutL, List.length_take, List.length_drop, List.length_append, List.length_cons, List.length_nil, List.length_set, Option.some.injEq, Int.reduceToNat] <;> omega))
  · refine FinC.te (y := .bool _) rfl rfl trivial (congrArg AV.bool (Eq.symm (decide_eq_false fun e => ?_)))
    subst e; omega
  · have hl : a.length = b.length := by omega
    refine HoldsT.loop (sh30 a b) (fun k => (a.length - k).toNat) (fun k => 0 ≤ k ∧ k ≤ a.length ∧ a.take k.toNat = b.take k.toNat) 0 ?_ ?_ (fun _ => by kernel_rfl) ?_
    · refine WeakT.of ?_ ?_ (by kernel_rfl)
      · repeat' (first | exact TTle.junk _ _ | exact TTle.same _ | refine TTle.node ?_ ?_ | refine TTle.leaf ?_ | exact AVle.junk _ | exact AVle.rfl' rfl | exact AVle.nilS | exact AVle.nilB)
      · repeat' (first | exact OOle.none _ _ | exact OOle.same _ | refine OOle.node ?_ ?_ | exact OOle.leaf _ | exact OOle.gone _)
    · exact ⟨by omega, by omega, rfl⟩
    · intro k hk
      obtain ⟨h1, h2, h3⟩ := hk
      show HoldsT Tryd.prog _ (sh30 a b k) _
      repeat' (first
        | refine allProp_T ?_
        | exact trivial
        | (refine URun.id ?_; first
            | refine URun.nil ?_
            | refine URun.many tabs rfl rfl (by kernel_rfl) ?_ ?_
            | refine URun.same tabs rfl rfl rfl ?_
            | refine URun.same2 tabs rfl rfl rfl ?_
            | refine URun.split tabs rfl rfl rfl rfl (fun h => ?_) (fun h => ?_))
        | (refine TRun.id ?_; first
            | refine TRun.nil ?_
            | refine TRun.many rfl rfl (by kernel_rfl) ?_ ?_
            | refine TRun.same rfl rfl rfl ?_
            | refine TRun.same2 rfl rfl rfl ?_
            | refine TRun.split rfl rfl rfl rfl (fun h => ?_) (fun h => ?_))
        | (refine HoldsT.id ?_; first
            | refine HoldsT.seq ?_
            | refine HoldsT.regionU ?_
            | refine HoldsT.drawn tabs ?_
            | refine HoldsT.yes rfl ?_
            | refine HoldsT.no rfl ?_
            | refine HoldsT.cond rfl (fun h => ?_) (fun h => ?_)
            | refine HoldsT.block ?_
            | refine HoldsT.ret ?_
            | refine HoldsT.skip ?_
            | refine HoldsT.exit ?_)
        | (refine okTr_intro ?_; kernel_rfl)
        | exact absurd rfl h
        | refine allProp_C ?_ ?_
        | refine And.intro ?_ ?_
        | omega
        | (show _ < List.length _; omega)
        | exact rowlen_intro rfl
        | exact lenEq_intro rfl
        | exact Nat.le_of_ble_eq_true rfl
        | (simp only [AV.rowlenD, AV.rowlen, AV.ncells, mulSz, toN, Option.map_some, Option.map_none, cutL, List.length_take, List.length_drop, List.length_append, List.length_cons, List.length_nil, List.length_set, Option.some.injEq, Int.reduceToNat] <;> omega))
      · refine FinC.te (y := .bool _) rfl rfl trivial (congrArg AV.bool (Eq.symm (decide_eq_false fun e => ?_)))
        subst e; exact h rfl
      · refine ⟨k + 1, ⟨by omega, by omega, by omega, ?_⟩, ?_⟩
        · rw [toNat_succ h1]; exact take_succ_eq h3 (by omega) (by omega) (Decidable.not_not.1 h)
        · refine WeakT.of ?_ ?_ (by kernel_rfl)
          · repeat' (first | exact TTle.junk _ _ | exact TTle.same _ | refine TTle.node ?_ ?_ | refine TTle.leaf ?_ | exact AVle.junk _ | exact AVle.rfl' rfl | exact AVle.nilS | exact AVle.nilB)
          · repeat' (first | exact OOle.none _ _ | exact OOle.same _ | refine OOle.node ?_ ?_ | exact OOle.leaf _ | exact OOle.gone _)
      · refine FinC.te (y := .bool _) rfl rfl trivial (congrArg AV.bool (Eq.symm (decide_eq_true ?_)))
        rw [List.take_of_length_le (by omega), List.take_of_length_le (by omega)] at h3
        exact h3
def placeL (ls : List (List UInt8)) (l c : Int) : Bool := decide (0 ≤ l ∧ l < ls.length ∧ 0 ≤ c ∧ c ≤ (ls.getD l.toNat []).length)
set_option maxRecDepth 10000 in
set_option maxHeartbeats 8000000 in
theorem p58 (ls : List (List UInt8)) (l c : Int) : Pure Tryd.prog 31 [.slS ls, .agg [.int .i64 l, .int .i64 c]] (.bool (placeL ls l c)) := by
  refine Pure.ofT tab_ok Tryd.func31 rfl rfl [.tmp 4] rfl (by decide) rfl ⟨31, 5, (.node (.node (.node (.node (.node (.leaf (.slS ls)) (J 0)) (J 1)) (J 2)) (J 3)) (.node (.node (.node (.node (.leaf (.agg [.int .i64 l, .int .i64 c])) (J 0)) (J 1)) (J 2)) (J 3))), (OO 5)⟩ (by kernel_rfl) (by kernel_rfl) ?_
  repeat' (first
    | refine allProp_T ?_
    | exact trivial
    | (refine URun.id ?_; first
        | refine URun.nil ?_
        | refine URun.many tabs rfl rfl (by kernel_rfl) ?_ ?_
        | refine URun.same tabs rfl rfl rfl ?_
        | refine URun.same2 tabs rfl rfl rfl ?_
        | refine URun.split tabs rfl rfl rfl rfl (fun h => ?_) (fun h => ?_))
    | (refine TRun.id ?_; first
        | refine TRun.nil ?_
        | refine TRun.many rfl rfl (by kernel_rfl) ?_ ?_
        | refine TRun.same rfl rfl rfl ?_
        | refine TRun.same2 rfl rfl rfl ?_
        | refine TRun.split rfl rfl rfl rfl (fun h => ?_) (fun h => ?_))
    | (refine HoldsT.id ?_; first
        | refine HoldsT.seq ?_
        | refine HoldsT.regionU ?_
        | refine HoldsT.drawn tabs ?_
        | refine HoldsT.yes rfl ?_
        | refine HoldsT.no rfl ?_
        | refine HoldsT.cond rfl (fun h => ?_) (fun h => ?_)
        | refine HoldsT.block ?_
        | refine HoldsT.ret ?_
        | refine HoldsT.skip ?_
        | refine HoldsT.exit ?_)
    | (refine okTr_intro ?_; kernel_rfl)
    | exact absurd rfl h
    | refine allProp_C ?_ ?_
    | refine And.intro ?_ ?_
    | omega
    | (show _ < List.length _; omega)
    | exact rowlen_intro rfl
    | exact lenEq_intro rfl
    | exact Nat.le_of_ble_eq_true rfl
    | (simp only [AV.rowlenD, AV.rowlen, AV.ncells, mulSz, toN, Option.map_some, Option.map_none, cutL, List.length_take, List.length_drop, List.length_append, List.length_cons, List.length_nil, List.length_set, Option.some.injEq, Int.reduceToNat] <;> omega))
  all_goals refine FinC.te (y := .bool _) rfl rfl trivial (congrArg AV.bool ?_)
  all_goals (unfold placeL; symm; first | exact decide_eq_true (by omega) | exact decide_eq_false (by omega))
def validL (ls : List (List UInt8)) (k fl fc tl tc : Int) : Bool :=
  decide (0 ≤ fl ∧ fl ≤ tl ∧ tl < ls.length) && (decide (k = 0) && (placeL ls fl fc && placeL ls tl tc && !ltP tl tc fl fc) || decide (k = 1) || decide (k = 2 ∧ 0 ≤ fc ∧ fc ≤ tc))
set_option maxRecDepth 10000 in
set_option maxHeartbeats 2000000 in
theorem p55 (ls : List (List UInt8)) (k fl fc tl tc : Int) : Pure Tryd.prog 41 [.slS ls, .agg [.int .i64 k, .int .i64 fl, .int .i64 fc, .int .i64 tl, .int .i64 tc]] (.bool (validL ls k fl fc tl tc)) := by
  refine Pure.ofT tab_ok Tryd.func41 rfl rfl [.tmp 4] rfl (by decide) rfl ⟨65, 7, (.node (.node (.node (.node (.node (.node (.node (.leaf (.slS ls)) (J 0)) (J 1)) (J 2)) (J 3)) (J 4)) (J 5)) (.node (.node (.node (.node (.node (.node (.leaf (.agg [.int .i64 k, .int .i64 fl, .int .i64 fc, .int .i64 tl, .int .i64 tc])) (J 0)) (J 1)) (J 2)) (J 3)) (J 4)) (J 5))), (OO 7)⟩ (by kernel_rfl) (by kernel_rfl) ?_
  repeat' (first
    | refine allProp_T ?_
    | exact trivial
    | (refine URun.id ?_; first
        | refine URun.nil ?_
        | refine URun.many tabs rfl rfl (by kernel_rfl) ?_ ?_
        | (refine URun.toCall 31 rfl ?_; first
          | refine URun.callB tabs rfl rfl rfl rfl (p58 _ _ _) rfl rfl ?_ rfl rfl (fun h => ?_) (fun h => ?_))
        | (refine URun.toCall 59 rfl ?_; first
          | refine URun.callB tabs rfl rfl rfl rfl (p25 _ _ _ _) rfl rfl ?_ rfl rfl (fun h => ?_) (fun h => ?_))
        | refine URun.same tabs rfl rfl rfl ?_
        | refine URun.same2 tabs rfl rfl rfl ?_
        | refine URun.split tabs rfl rfl rfl rfl (fun h => ?_) (fun h => ?_))
    | (refine TRun.id ?_; first
        | refine TRun.nil ?_
        | refine TRun.many rfl rfl (by kernel_rfl) ?_ ?_
        | (refine TRun.toCall 31 rfl ?_; first
          | refine TRun.callB rfl rfl rfl rfl (p58 _ _ _) rfl rfl ?_ rfl rfl (fun h => ?_) (fun h => ?_))
        | (refine TRun.toCall 59 rfl ?_; first
          | refine TRun.callB rfl rfl rfl rfl (p25 _ _ _ _) rfl rfl ?_ rfl rfl (fun h => ?_) (fun h => ?_))
        | refine TRun.same rfl rfl rfl ?_
        | refine TRun.same2 rfl rfl rfl ?_
        | refine TRun.split rfl rfl rfl rfl (fun h => ?_) (fun h => ?_))
    | (refine HoldsT.id ?_; first
        | refine HoldsT.seq ?_
        | refine HoldsT.regionU ?_
        | refine HoldsT.drawn tabs ?_
        | refine HoldsT.yes rfl ?_
        | refine HoldsT.no rfl ?_
        | refine HoldsT.cond rfl (fun h => ?_) (fun h => ?_)
        | refine HoldsT.block ?_
        | refine HoldsT.ret ?_
        | refine HoldsT.skip ?_
        | refine HoldsT.exit ?_)
    | (refine okTr_intro ?_; kernel_rfl)
    | exact absurd rfl h
    | refine allProp_C ?_ ?_
    | refine And.intro ?_ ?_
    | omega
    | (show _ < List.length _; omega)
    | exact rowlen_intro rfl
    | exact lenEq_intro rfl
    | exact Nat.le_of_ble_eq_true rfl
    | (simp only [AV.rowlenD, AV.rowlen, AV.ncells, mulSz, toN, Option.map_some, Option.map_none, cutL, List.length_take, List.length_drop, List.length_append, List.length_cons, List.length_nil, List.length_set, Option.some.injEq, Int.reduceToNat] <;> omega))
  all_goals refine FinC.te (y := .bool _) rfl rfl trivial (congrArg AV.bool ?_)
  all_goals (simp only [validL]; simp [*]; try omega)
def lenL (ls : List (List UInt8)) (i : Int) : Int := (ls.getD i.toNat []).length
def colF (ls : List (List UInt8)) (k fl fc i : Int) : Int := if k = 0 then (if i = fl then fc else 0) else if k = 2 then min fc (lenL ls i) else 0
def colT (ls : List (List UInt8)) (k tl tc i : Int) : Int := if k = 0 then (if i = tl then tc else lenL ls i) else if k = 2 then min tc (lenL ls i - 1) + 1 else lenL ls i
theorem tup2 {a b c d : Int} (h1 : a = c) (h2 : b = d) : AV.tup [.int .i64 a, .int .i64 b] = .tup [.int .i64 c, .int .i64 d] := by rw [h1, h2]
set_option maxRecDepth 10000 in
set_option maxHeartbeats 2000000 in
theorem p56 (ls : List (List UInt8)) (k fl fc tl tc i : Int) (h0 : 0 ≤ i) (h1 : i < ls.length) (hB : ∀ n : Nat, (ls.getD n []).length ≤ 1000000000000) (hq : k = 2 → -1000000000000000 ≤ tc) : Pure Tryd.prog 44 [.slS ls, .agg [.int .i64 k, .int .i64 fl, .int .i64 fc, .int .i64 tl, .int .i64 tc], .int .i64 i] (.tup [.int .i64 (colF ls k fl fc i), .int .i64 (colT ls k tl tc i)]) := by
  have hb := hB i.toNat
  refine Pure.ofT tab_ok Tryd.func44 rfl rfl [.tmp 6, .tmp 7] rfl (by decide) rfl ⟨51, 6, (.node (.node (.node (.node (.node (.node (.leaf (.slS ls)) (J 0)) (J 1)) (J 2)) (J 3)) (.node (.node (.node (.node (.leaf (.int .i64 i)) (J 0)) (J 1)) (J 2)) (J 3))) (.node (.node (.node (.node (.node (.leaf (.agg [.int .i64 k, .int .i64 fl, .int .i64 fc, .int .i64 tl, .int .i64 tc])) (J 0)) (J 1)) (J 2)) (J 3)) (J 4))), (OO 6)⟩ (by kernel_rfl) (by kernel_rfl) ?_
  repeat' (first
    | refine allProp_T ?_
    | exact trivial
    | (refine URun.id ?_; first
        | refine URun.nil ?_
        | refine URun.many tabs rfl rfl (by kernel_rfl) ?_ ?_
        | refine URun.same tabs rfl rfl rfl ?_
        | refine URun.same2 tabs rfl rfl rfl ?_
        | refine URun.split tabs rfl rfl rfl rfl (fun h => ?_) (fun h => ?_))
    | (refine TRun.id ?_; first
        | refine TRun.nil ?_
        | refine TRun.many rfl rfl (by kernel_rfl) ?_ ?_
        | refine TRun.same rfl rfl rfl ?_
        | refine TRun.same2 rfl rfl rfl ?_
        | refine TRun.split rfl rfl rfl rfl (fun h => ?_) (fun h => ?_))
    | (refine HoldsT.id ?_; first
        | refine HoldsT.seq ?_
        | refine HoldsT.regionU ?_
        | refine HoldsT.drawn tabs ?_
        | refine HoldsT.yes rfl ?_
        | refine HoldsT.no rfl ?_
        | refine HoldsT.cond rfl (fun h => ?_) (fun h => ?_)
        | refine HoldsT.block ?_
        | refine HoldsT.ret ?_
        | refine HoldsT.skip ?_
        | refine HoldsT.exit ?_)
    | (refine okTr_intro ?_; kernel_rfl)
    | exact absurd rfl h
    | refine allProp_C ?_ ?_
    | refine And.intro ?_ ?_
    | omega
    | (show _ < List.length _; omega)
    | exact rowlen_intro rfl
    | exact lenEq_intro rfl
    | exact Nat.le_of_ble_eq_true rfl
    | (simp only [AV.rowlenD, AV.rowlen, AV.ncells, mulSz, toN, Option.map_some, Option.map_none, cutL, List.length_take, List.length_drop, List.length_append, List.length_cons, List.length_nil, List.length_set, Option.some.injEq, Int.reduceToNat] <;> omega))
  all_goals refine FinC.te (y := .tup [.int .i64 _, .int .i64 _]) rfl rfl ⟨trivial, trivial, trivial⟩ ?_
  all_goals (refine tup2 ?_ ?_ <;> simp only [colF, colT, lenL] <;> (repeat' split) <;> omega)
def rowT (ls : List (List UInt8)) (k fl fc tl tc i : Int) : List UInt8 := cutL (ls.getD i.toNat []) (some (colF ls k fl fc i).toNat) (some (colT ls k tl tc i).toNat)
/-- The rows from one line on, n of them. -/
def rowsT (ls : List (List UInt8)) (k fl fc tl tc : Int) : Nat → List (List UInt8)
  | 0 => []
  | n + 1 => rowsT ls k fl fc tl tc n ++ [rowT ls k fl fc tl tc (fl + n)]
def textL (ls : List (List UInt8)) (k fl fc tl tc : Int) : List (List UInt8) := if validL ls k fl fc tl tc = true then rowsT ls k fl fc tl tc (tl - fl + 1).toNat else []
theorem validL_spec {ls : List (List UInt8)} {k fl fc tl tc : Int} (h : validL ls k fl fc tl tc = true) : (0 ≤ fl ∧ fl ≤ tl ∧ tl < ls.length) ∧ (k = 0 ∧ (0 ≤ fc ∧ fc ≤ lenL ls fl) ∧ (0 ≤ tc ∧ tc ≤ lenL ls tl) ∧ (fl = tl → fc ≤ tc) ∨ k = 1 ∨ k = 2 ∧ 0 ≤ fc ∧ fc ≤ tc) := by
  simp only [validL, placeL, ltP, Bool.and_eq_true, Bool.or_eq_true, decide_eq_true_eq, Bool.not_eq_true', decide_eq_false_iff_not] at h
  refine ⟨h.1, ?_⟩
  unfold lenL
  rcases h.2 with (h | h) | h
  · refine .inl ⟨h.1, ?_⟩; omega
  · exact .inr (.inl h)
  · exact .inr (.inr h)
theorem cols_ok {ls : List (List UInt8)} {k fl fc tl tc i : Int} (h : validL ls k fl fc tl tc = true) (h1 : fl ≤ i) (h2 : i ≤ tl) : 0 ≤ colF ls k fl fc i ∧ colF ls k fl fc i ≤ colT ls k tl tc i ∧ colT ls k tl tc i ≤ lenL ls i := by
  obtain ⟨h3, h4⟩ := validL_spec h
  have h5 : 0 ≤ lenL ls i := Int.natCast_nonneg _
  have h6 : 0 ≤ lenL ls fl := Int.natCast_nonneg _
  have h7 : i = fl → lenL ls i = lenL ls fl := fun e => by rw [e]
  have h8 : i = tl → lenL ls i = lenL ls tl := fun e => by rw [e]
  unfold colF colT
  (repeat' split) <;> omega
theorem rowsT_length (ls : List (List UInt8)) (k fl fc tl tc : Int) : ∀ n, (rowsT ls k fl fc tl tc n).length = n
  | 0 => rfl
  | n + 1 => by simp [rowsT, rowsT_length ls k fl fc tl tc n]
theorem tail_row {α : Type} (l : List α) (x : α) : l.length + [x].length = (l ++ [x]).length := by simp
def sumL (ls : List (List UInt8)) : Nat := (ls.map List.length).sum
def noLF (l : List UInt8) : Bool := l.all fun c => c != 10
def lightL (ls : List (List UInt8)) : Bool := decide (ls.length ≤ 40) && decide (sumL ls ≤ 1200) && ls.all noLF
theorem sumL_take (ls : List (List UInt8)) (i : Nat) (h : i < ls.length) : sumL (ls.take (i + 1)) = sumL (ls.take i) + (ls.getD i []).length := by
  unfold sumL
  rw [List.take_add_one, List.getElem?_eq_getElem h, List.map_append, List.sum_append, Option.toList_some, List.map_cons, List.map_nil, List.sum_cons, List.sum_nil]
  have : ls.getD i [] = ls[i] := by simp [h]
  rw [this]; rfl
theorem sumL_le (ls : List (List UInt8)) (i : Nat) : sumL (ls.take i) ≤ sumL ls := by
  have : sumL ls = sumL (ls.take i) + sumL (ls.drop i) := by
    unfold sumL
    rw [← List.sum_append, ← List.map_append, List.take_append_drop]
  omega
theorem all_take {α : Type} (p : α → Bool) (d : α) (l : List α) (i : Nat) (h : i < l.length) (h1 : (l.take i).all p = true) (h2 : p (l.getD i d) = true) : (l.take (i + 1)).all p = true := by
  rw [List.take_add_one, List.getElem?_eq_getElem h, List.all_append, h1]
  simpa [h] using h2
theorem all_not {α : Type} (p : α → Bool) (d : α) (l : List α) (i : Nat) (h : i < l.length) (h2 : p (l.getD i d) = false) : l.all p = false := by
  rw [List.all_eq_false]
  refine ⟨l[i], List.getElem_mem h, ?_⟩
  have : l.getD i d = l[i] := by simp [h]
  rw [this] at h2
  simp [h2]
theorem byte_ne {c : UInt8} (h : ¬ ((c.toNat : Int) = 10)) : (c != 10) = true := by
  simp only [bne_iff_ne, ne_eq]
  intro e; subst e; exact h rfl
theorem byte_eq {c : UInt8} (h : (c.toNat : Int) = 10) : (c != 10) = false := by
  have : c.toNat = 10 := by omega
  have : c = 10 := by
    apply UInt8.toNat_inj.1
    rw [this]; rfl
  subst this; rfl
def sh31a (ls : List (List UInt8)) (n i : Int) : TS := ⟨40, 6, (.node (.node (.node (.node (.node (.node (.leaf (.slS ls)) (J 0)) (J 1)) (J 2)) (.node (.node (.node (.leaf (.int .i64 i)) (J 0)) (J 1)) (J 2))) (J 4)) (.node (J 4) (.node (.node (.node (.node (.leaf (.int .i64 n)) (J 0)) (J 1)) (J 2)) (J 3)))), (OO 6)⟩
def sh31b (ls : List (List UInt8)) (n i k : Int) : TS := ⟨40, 6, (.node (.node (.node (.node (.node (.node (.leaf (.slS ls)) (J 0)) (J 1)) (J 2)) (.node (.node (.node (.leaf (.int .i64 i)) (J 0)) (J 1)) (J 2))) (J 4)) (.node (.node (J 3) (.node (.node (.node (.leaf (.int .i64 k)) (J 0)) (J 1)) (J 2))) (.node (.node (.node (.node (.leaf (.int .i64 n)) (J 0)) (J 1)) (J 2)) (J 3)))), (OO 6)⟩
set_option maxRecDepth 10000 in
set_option maxHeartbeats 4000000 in
theorem p31 (ls : List (List UInt8)) (hL : ls.length ≤ 140737488355328) (hB : ∀ n : Nat, (ls.getD n []).length ≤ 140737488355328) : Pure Tryd.prog 11 [.slS ls] (.bool (lightL ls)) := by
  refine Pure.ofT tab_ok Tryd.func11 rfl rfl [.tmp 2] rfl (by decide) rfl ⟨40, 6, (.node (.node (.node (.node (.node (.node (.leaf (.slS ls)) (J 0)) (J 1)) (J 2)) (J 3)) (J 4)) (J 5)), (OO 6)⟩ (by kernel_rfl) (by kernel_rfl) ?_
  repeat' (first
    | refine allProp_T ?_
    | exact trivial
    | (refine URun.id ?_; first
        | refine URun.nil ?_
        | refine URun.many tabs rfl rfl (by kernel_rfl) ?_ ?_
        | refine URun.same tabs rfl rfl rfl ?_
        | refine URun.same2 tabs rfl rfl rfl ?_
        | refine URun.split tabs rfl rfl rfl rfl (fun h => ?_) (fun h => ?_))
    | (refine TRun.id ?_; first
        | refine TRun.nil ?_
        | refine TRun.many rfl rfl (by kernel_rfl) ?_ ?_
        | refine TRun.same rfl rfl rfl ?_
        | refine TRun.same2 rfl rfl rfl ?_
        | refine TRun.split rfl rfl rfl rfl (fun h => ?_) (fun h => ?_))
    | (refine HoldsT.id ?_; first
        | refine HoldsT.seq ?_
        | refine HoldsT.regionU ?_
        | refine HoldsT.drawn tabs ?_
        | refine HoldsT.yes rfl ?_
        | refine HoldsT.no rfl ?_
        | refine HoldsT.cond rfl (fun h => ?_) (fun h => ?_)
        | refine HoldsT.block ?_
        | refine HoldsT.ret ?_
        | refine HoldsT.skip ?_
        | refine HoldsT.exit ?_)
    | (refine okTr_intro ?_; kernel_rfl)
    | exact absurd rfl h
    | refine allProp_C ?_ ?_
    | refine And.intro ?_ ?_
    | omega
    | (show _ < List.length _; omega)
    | exact rowlen_intro rfl
    | exact lenEq_intro rfl
    | exact Nat.le_of_ble_eq_true rfl
    | (simp only [AV.rowlenD, AV.rowlen, AV.ncells, mulSz, toN, Option.map_some, Option.map_none, cutL, List.length_take, List.length_drop, List.length_append, List.length_cons, List.length_nil, List.length_set, Option.some.injEq, Int.reduceToNat] <;> omega))
  · exact FinC.te (tab := tab) (y := .bool false) rfl rfl trivial (congrArg AV.bool (by unfold lightL; rw [decide_eq_false (by omega)]; rfl))
  · refine HoldsT.loop (fun x : Int × Int => sh31a ls x.1 x.2) (fun x => (ls.length - x.2).toNat) (fun x => 0 ≤ x.2 ∧ x.2 ≤ ls.length ∧ x.1 = sumL (ls.take x.2.toNat) ∧ x.1 ≤ 1200 ∧ (ls.take x.2.toNat).all noLF = true) (0, 0) ?_ ?_ (fun _ => by kernel_rfl) ?_
    · refine WeakT.of ?_ ?_ (by kernel_rfl)
      · repeat' (first | exact TTle.junk _ _ | exact TTle.same _ | refine TTle.node ?_ ?_ | refine TTle.leaf ?_ | exact AVle.junk _ | exact AVle.rfl' rfl | exact AVle.nilS | exact AVle.nilB)
      · repeat' (first | exact OOle.none _ _ | exact OOle.same _ | refine OOle.node ?_ ?_ | exact OOle.leaf _ | exact OOle.gone _)
    · exact ⟨by simp, by simp, by simp [sumL], by simp, by simp⟩
    · intro x hx
      obtain ⟨n, i⟩ := x
      obtain ⟨h1, h2, h3, h4, h5⟩ := hx
      simp only at h1 h2 h3 h4 h5
      have hb := hB i.toNat
      have hs : i < ls.length → sumL (ls.take (i.toNat + 1)) = sumL (ls.take i.toNat) + (ls.getD i.toNat []).length := fun hi => sumL_take ls i.toNat (by omega)
      show HoldsT Tryd.prog _ (sh31a ls n i) _
      repeat' (first
        | refine allProp_T ?_
        | exact trivial
        | (refine URun.id ?_; first
            | refine URun.nil ?_
            | refine URun.many tabs rfl rfl (by kernel_rfl) ?_ ?_
            | refine URun.same tabs rfl rfl rfl ?_
            | refine URun.same2 tabs rfl rfl rfl ?_
            | refine URun.split tabs rfl rfl rfl rfl (fun h => ?_) (fun h => ?_))
        | (refine TRun.id ?_; first
            | refine TRun.nil ?_
            | refine TRun.many rfl rfl (by kernel_rfl) ?_ ?_
            | refine TRun.same rfl rfl rfl ?_
            | refine TRun.same2 rfl rfl rfl ?_
            | refine TRun.split rfl rfl rfl rfl (fun h => ?_) (fun h => ?_))
        | (refine HoldsT.id ?_; first
            | refine HoldsT.seq ?_
            | refine HoldsT.regionU ?_
            | refine HoldsT.drawn tabs ?_
            | refine HoldsT.yes rfl ?_
            | refine HoldsT.no rfl ?_
            | refine HoldsT.cond rfl (fun h => ?_) (fun h => ?_)
            | refine HoldsT.block ?_
            | refine HoldsT.ret ?_
            | refine HoldsT.skip ?_
            | refine HoldsT.exit ?_)
        | (refine okTr_intro ?_; kernel_rfl)
        | exact absurd rfl h
        | refine allProp_C ?_ ?_
        | refine And.intro ?_ ?_
        | omega
        | (show _ < List.length _; omega)
        | exact rowlen_intro rfl
        | exact lenEq_intro rfl
        | exact Nat.le_of_ble_eq_true rfl
        | (simp only [AV.rowlenD, AV.rowlen, AV.ncells, mulSz, toN, Option.map_some, Option.map_none, cutL, List.length_take, List.length_drop, List.length_append, List.length_cons, List.length_nil, List.length_set, Option.some.injEq, Int.reduceToNat] <;> omega))
      · refine FinC.te (tab := tab) (y := .bool false) rfl rfl trivial (congrArg AV.bool ?_)
        have h6 := sumL_le ls (i.toNat + 1)
        unfold lightL
        rw [decide_eq_false (p := sumL ls ≤ 1200) (by omega)]
        simp
      · rename_i hi
        have hi' := hs hi
        refine HoldsT.loop (fun k : Int => sh31b ls (n + (ls.getD i.toNat []).length) i k) (fun k => ((ls.getD i.toNat []).length - k).toNat) (fun k => 0 ≤ k ∧ k ≤ (ls.getD i.toNat []).length ∧ noLF ((ls.getD i.toNat []).take k.toNat) = true) 0 ?_ ?_ (fun _ => by kernel_rfl) ?_
        · refine WeakT.of ?_ ?_ (by kernel_rfl)
          · repeat' (first | exact TTle.junk _ _ | exact TTle.same _ | refine TTle.node ?_ ?_ | refine TTle.leaf ?_ | exact AVle.junk _ | exact AVle.rfl' rfl | exact AVle.nilS | exact AVle.nilB)
          · repeat' (first | exact OOle.none _ _ | exact OOle.same _ | refine OOle.node ?_ ?_ | exact OOle.leaf _ | exact OOle.gone _)
        · exact ⟨by simp, by simp, by simp [noLF]⟩
        · intro k hk
          obtain ⟨k1, k2, k3⟩ := hk
          show HoldsT Tryd.prog _ (sh31b ls (n + (ls.getD i.toNat []).length) i k) _
          repeat' (first
            | refine allProp_T ?_
            | exact trivial
            | (refine URun.id ?_; first
                | refine URun.nil ?_
                | refine URun.many tabs rfl rfl (by kernel_rfl) ?_ ?_
                | refine URun.same tabs rfl rfl rfl ?_
                | refine URun.same2 tabs rfl rfl rfl ?_
                | refine URun.split tabs rfl rfl rfl rfl (fun h => ?_) (fun h => ?_))
            | (refine TRun.id ?_; first
                | refine TRun.nil ?_
                | refine TRun.many rfl rfl (by kernel_rfl) ?_ ?_
                | refine TRun.same rfl rfl rfl ?_
                | refine TRun.same2 rfl rfl rfl ?_
                | refine TRun.split rfl rfl rfl rfl (fun h => ?_) (fun h => ?_))
            | (refine HoldsT.id ?_; first
                | refine HoldsT.seq ?_
                | refine HoldsT.regionU ?_
                | refine HoldsT.drawn tabs ?_
                | refine HoldsT.yes rfl ?_
                | refine HoldsT.no rfl ?_
                | refine HoldsT.cond rfl (fun h => ?_) (fun h => ?_)
                | refine HoldsT.block ?_
                | refine HoldsT.ret ?_
                | refine HoldsT.skip ?_
                | refine HoldsT.exit ?_)
            | (refine okTr_intro ?_; kernel_rfl)
            | exact absurd rfl h
            | refine allProp_C ?_ ?_
            | refine And.intro ?_ ?_
            | omega
            | (show _ < List.length _; omega)
            | exact rowlen_intro rfl
            | exact lenEq_intro rfl
            | exact Nat.le_of_ble_eq_true rfl
            | (simp only [AV.rowlenD, AV.rowlen, AV.ncells, mulSz, toN, Option.map_some, Option.map_none, cutL, List.length_take, List.length_drop, List.length_append, List.length_cons, List.length_nil, List.length_set, Option.some.injEq, Int.reduceToNat] <;> omega))
          · refine FinC.te (tab := tab) (y := .bool false) rfl rfl trivial (congrArg AV.bool ?_)
            have h6 : noLF (ls.getD i.toNat []) = false := all_not _ 0 _ k.toNat (by omega) (byte_eq h)
            unfold lightL
            rw [all_not _ [] _ i.toNat (by omega) h6]
            simp
          · refine ⟨k + 1, ⟨by omega, by omega, by omega, ?_⟩, ?_⟩
            · rw [toNat_succ k1]; exact all_take _ 0 _ _ (by omega) k3 (byte_ne h)
            · refine WeakT.of ?_ ?_ (by kernel_rfl)
              · repeat' (first | exact TTle.junk _ _ | exact TTle.same _ | refine TTle.node ?_ ?_ | refine TTle.leaf ?_ | exact AVle.junk _ | exact AVle.rfl' rfl | exact AVle.nilS | exact AVle.nilB)
              · repeat' (first | exact OOle.none _ _ | exact OOle.same _ | refine OOle.node ?_ ?_ | exact OOle.leaf _ | exact OOle.gone _)
          · refine ⟨(n + (ls.getD i.toNat []).length, i + 1), ⟨by simp only; omega, by simp only; omega, by simp only; omega, ?_, by simp only; omega, ?_⟩, ?_⟩
            · simp only; rw [toNat_succ h1, hi']; omega
            · simp only; rw [toNat_succ h1]
              refine all_take _ [] _ _ (by omega) h5 ?_
              rw [List.take_of_length_le (by omega)] at k3
              exact k3
            · refine WeakT.of ?_ ?_ (by kernel_rfl)
              · repeat' (first | exact TTle.junk _ _ | exact TTle.same _ | refine TTle.node ?_ ?_ | refine TTle.leaf ?_ | exact AVle.junk _ | exact AVle.rfl' rfl | exact AVle.nilS | exact AVle.nilB)
              · repeat' (first | exact OOle.none _ _ | exact OOle.same _ | refine OOle.node ?_ ?_ | exact OOle.leaf _ | exact OOle.gone _)
      · refine FinC.te (tab := tab) (y := .bool true) rfl rfl trivial (congrArg AV.bool ?_)
        rw [List.take_of_length_le (by omega)] at h3 h5
        unfold lightL
        rw [decide_eq_true (by omega), decide_eq_true (by omega), h5]; rfl
set_option maxRecDepth 10000 in
set_option maxHeartbeats 8000000 in
theorem p27 (ls : List (List UInt8)) (hL : ls.length ≤ 140737488355328) (hB : ∀ n : Nat, (ls.getD n []).length ≤ 140737488355328) : Pure Tryd.prog 10 [.slS ls] (.bool (decide (0 < (ls.length : Int)) && lightL ls)) := by
  refine Pure.ofT tab_ok Tryd.func10 rfl rfl [.tmp 2] rfl (by decide) rfl ⟨10, 4, (.node (.node (.node (.node (.leaf (.slS ls)) (J 0)) (J 1)) (J 2)) (J 3)), (OO 4)⟩ (by kernel_rfl) (by kernel_rfl) ?_
  repeat' (first
    | refine allProp_T ?_
    | exact trivial
    | (refine URun.id ?_; first
        | refine URun.nil ?_
        | refine URun.many tabs rfl rfl (by kernel_rfl) ?_ ?_
        | (refine URun.toCall 11 rfl ?_; first
          | refine URun.callB tabs rfl rfl rfl rfl (p31 _ hL hB) rfl rfl ?_ rfl rfl (fun h => ?_) (fun h => ?_))
        | refine URun.same tabs rfl rfl rfl ?_
        | refine URun.same2 tabs rfl rfl rfl ?_
        | refine URun.split tabs rfl rfl rfl rfl (fun h => ?_) (fun h => ?_))
    | (refine TRun.id ?_; first
        | refine TRun.nil ?_
        | refine TRun.many rfl rfl (by kernel_rfl) ?_ ?_
        | (refine TRun.toCall 11 rfl ?_; first
          | refine TRun.callB rfl rfl rfl rfl (p31 _ hL hB) rfl rfl ?_ rfl rfl (fun h => ?_) (fun h => ?_))
        | refine TRun.same rfl rfl rfl ?_
        | refine TRun.same2 rfl rfl rfl ?_
        | refine TRun.split rfl rfl rfl rfl (fun h => ?_) (fun h => ?_))
    | (refine HoldsT.id ?_; first
        | refine HoldsT.seq ?_
        | refine HoldsT.regionU ?_
        | refine HoldsT.drawn tabs ?_
        | refine HoldsT.yes rfl ?_
        | refine HoldsT.no rfl ?_
        | refine HoldsT.cond rfl (fun h => ?_) (fun h => ?_)
        | refine HoldsT.block ?_
        | refine HoldsT.ret ?_
        | refine HoldsT.skip ?_
        | refine HoldsT.exit ?_)
    | (refine okTr_intro ?_; kernel_rfl)
    | exact absurd rfl h
    | refine allProp_C ?_ ?_
    | refine And.intro ?_ ?_
    | omega
    | (show _ < List.length _; omega)
    | exact rowlen_intro rfl
    | exact lenEq_intro rfl
    | exact Nat.le_of_ble_eq_true rfl
    | (simp only [AV.rowlenD, AV.rowlen, AV.ncells, mulSz, toN, Option.map_some, Option.map_none, cutL, List.length_take, List.length_drop, List.length_append, List.length_cons, List.length_nil, List.length_set, Option.some.injEq, Int.reduceToNat] <;> omega))
  all_goals refine FinC.te (y := .bool _) rfl rfl trivial (congrArg AV.bool ?_)
  all_goals simp only [*, Bool.true_and, Bool.false_and, decide_true, decide_false, Bool.and_true, Bool.and_false]
theorem light_len {ls : List (List UInt8)} (h : (decide (0 < (ls.length : Int)) && lightL ls) = true) : 0 < (ls.length : Int) ∧ ls.length ≤ 40 ∧ ∀ n : Nat, (ls.getD n []).length ≤ 1200 := by
  simp only [lightL, Bool.and_eq_true, decide_eq_true_eq] at h
  refine ⟨h.1, h.2.1.1, fun n => ?_⟩
  rcases Nat.lt_or_ge n ls.length with hn | hn
  · have h1 := sumL_take ls n hn
    have h2 := sumL_le ls (n + 1)
    omega
  · simp [hn]
def plL (ls : List (List UInt8)) (a : Int) : Int := a.tmod ls.length
def plC (ls : List (List UInt8)) (a b : Int) : Int := b.tmod (((ls.getD (plL ls a).toNat []).length : Int) + 1)
theorem tmod_in {a n : Int} (ha : 0 ≤ a) (hn : 0 < n) : 0 ≤ a.tmod n ∧ a.tmod n < n := ⟨Int.tmod_nonneg n ha, Int.tmod_lt_of_pos a hn⟩
theorem place_ok {ls : List (List UInt8)} {a b : Int} (h0 : 0 < (ls.length : Int)) (ha : 0 ≤ a) (hb : 0 ≤ b) : placeL ls (plL ls a) (plC ls a b) = true := by
  have h1 := tmod_in ha h0
  have h2 : 0 ≤ plC ls a b ∧ plC ls a b < ((ls.getD (plL ls a).toNat []).length : Int) + 1 := tmod_in hb (by omega)
  exact decide_eq_true ⟨h1.1, h1.2, h2.1, by omega⟩
set_option maxRecDepth 10000 in
set_option maxHeartbeats 4000000 in
theorem p28 (ls : List (List UInt8)) (a b : Int) (h0 : 0 < (ls.length : Int)) (ha : 0 ≤ a ∧ a ≤ 65535) (hb : 0 ≤ b ∧ b ≤ 65535) (hB : ∀ n : Nat, (ls.getD n []).length ≤ 140737488355328) : Pure Tryd.prog 12 [.slS ls, .int .u16 a, .int .u16 b] (.agg [.int .i64 (plL ls a), .int .i64 (plC ls a b)]) := by
  have h1 := tmod_in ha.1 h0
  have hb1 := hB (a.tmod ls.length).toNat
  refine Pure.ofT tab_ok Tryd.func12 rfl rfl [.cell 6 24] rfl (by decide) rfl ⟨24, 5, (.node (.node (.node (.node (.node (.leaf (.slS ls)) (J 0)) (J 1)) (J 2)) (.node (.node (.node (.leaf (.int .u16 b)) (J 0)) (J 1)) (J 2))) (.node (.node (.node (.node (.leaf (.int .u16 a)) (J 0)) (J 1)) (J 2)) (J 3))), (OO 5)⟩ (by kernel_rfl) (by kernel_rfl) ?_
  repeat' (first
    | refine allProp_T ?_
    | exact trivial
    | (refine URun.id ?_; first
        | refine URun.nil ?_
        | refine URun.many tabs rfl rfl (by kernel_rfl) ?_ ?_
        | refine URun.same tabs rfl rfl rfl ?_
        | refine URun.same2 tabs rfl rfl rfl ?_
        | refine URun.split tabs rfl rfl rfl rfl (fun h => ?_) (fun h => ?_))
    | (refine TRun.id ?_; first
        | refine TRun.nil ?_
        | refine TRun.many rfl rfl (by kernel_rfl) ?_ ?_
        | refine TRun.same rfl rfl rfl ?_
        | refine TRun.same2 rfl rfl rfl ?_
        | refine TRun.split rfl rfl rfl rfl (fun h => ?_) (fun h => ?_))
    | (refine HoldsT.id ?_; first
        | refine HoldsT.seq ?_
        | refine HoldsT.regionU ?_
        | refine HoldsT.drawn tabs ?_
        | refine HoldsT.yes rfl ?_
        | refine HoldsT.no rfl ?_
        | refine HoldsT.cond rfl (fun h => ?_) (fun h => ?_)
        | refine HoldsT.block ?_
        | refine HoldsT.ret ?_
        | refine HoldsT.skip ?_
        | refine HoldsT.exit ?_)
    | (refine okTr_intro ?_; kernel_rfl)
    | exact absurd rfl h
    | refine allProp_C ?_ ?_
    | refine And.intro ?_ ?_
    | omega
    | (show _ < List.length _; omega)
    | exact rowlen_intro rfl
    | exact lenEq_intro rfl
    | exact Nat.le_of_ble_eq_true rfl
    | (simp only [AV.rowlenD, AV.rowlen, AV.ncells, mulSz, toN, Option.map_some, Option.map_none, cutL, List.length_take, List.length_drop, List.length_append, List.length_cons, List.length_nil, List.length_set, Option.some.injEq, Int.reduceToNat] <;> omega))
  exact FinC.te (tab := tab) (y := .agg [.int .i64 _, .int .i64 _]) rfl rfl ⟨trivial, trivial, trivial⟩ rfl
theorem rowsT_map (ls : List (List UInt8)) (k fl fc tl tc : Int) : ∀ n, rowsT ls k fl fc tl tc n = (List.range n).map fun i => rowT ls k fl fc tl tc (fl + (i : Nat))
  | 0 => rfl
  | n + 1 => by rw [rowsT, rowsT_map ls k fl fc tl tc n, List.range_succ, List.map_append]; rfl
set_option maxRecDepth 10000 in
set_option maxHeartbeats 8000000 in
theorem own66 (xs : List (List UInt8)) (hx : xs.length ≤ 8796093022208) : PureOwn Tryd.prog 32 [.slS xs] (.slS xs) 9 := by
  refine PureOwn.ofT Tryd.func32 rfl rfl (2) rfl ?_ ⟨8, 3, (.node (.node (.node (.leaf (.slS xs)) (J 0)) (J 1)) (J 2)), (OO 3)⟩ (by kernel_rfl) (by kernel_rfl) ?_
  · exact flatS
  repeat' (first
    | refine allProp_T ?_
    | exact trivial
    | (refine URun.id ?_; first
        | refine URun.nil ?_
        | refine URun.many tabs rfl rfl (by kernel_rfl) ?_ ?_
        | refine URun.isNil (e := 9) Tryd.underlying22 rfl rfl rfl rfl rfl rfl (fun h => ?_) ?_
        | refine URun.same tabs rfl rfl rfl ?_
        | refine URun.same2 tabs rfl rfl rfl ?_
        | refine URun.split tabs rfl rfl rfl rfl (fun h => ?_) (fun h => ?_))
    | (refine TRun.id ?_; first
        | refine TRun.nil ?_
        | refine TRun.many rfl rfl (by kernel_rfl) ?_ ?_
        | refine URun.isNil (e := 9) Tryd.underlying22 rfl rfl rfl rfl rfl rfl (fun h => ?_) ?_
        | refine TRun.same rfl rfl rfl ?_
        | refine TRun.same2 rfl rfl rfl ?_
        | refine TRun.split rfl rfl rfl rfl (fun h => ?_) (fun h => ?_))
    | (refine HoldsT.id ?_; first
        | refine HoldsT.seq ?_
        | refine HoldsT.regionU ?_
        | refine HoldsT.drawn tabs ?_
        | refine HoldsT.yes rfl ?_
        | refine HoldsT.no rfl ?_
        | refine HoldsT.cond rfl (fun h => ?_) (fun h => ?_)
        | refine HoldsT.block ?_
        | refine HoldsT.ret ?_
        | refine HoldsT.skip ?_
        | refine HoldsT.exit ?_)
    | (refine okTr_intro ?_; kernel_rfl)
    | exact absurd rfl h
    | refine allProp_C ?_ ?_
    | refine And.intro ?_ ?_
    | omega
    | (show _ < List.length _; omega)
    | exact rowlen_intro rfl
    | exact Nat.le_of_ble_eq_true rfl
    | (simp only [AV.rowlenD, AV.rowlen, AV.ncells, toN, Option.map_some, Option.map_none, cutL, List.length_take, List.length_drop, List.length_append, List.length_cons, List.length_nil, Option.some.injEq, Int.reduceToNat] <;> omega))
  · obtain rfl : xs = [] := List.eq_nil_of_length_eq_zero h
    exact FinOwn.nil rfl rfl rfl
  · exact FinOwn.row rfl rfl rfl (by simp [AV.rowlen, AV.rowlenD])
theorem p66 (xs : List (List UInt8)) (hx : xs.length ≤ 8796093022208) : Pure Tryd.prog 32 [.slS xs] (.slS xs) := (own66 xs hx).toPure rfl
/-- Lines n from one on. -/
def midL (ls : List (List UInt8)) (a n : Int) : List (List UInt8) := cutL ls (some a.toNat) (some (a + n).toNat)
set_option maxRecDepth 10000 in
set_option maxHeartbeats 8000000 in
theorem p80 (ls now : List (List UInt8)) (a n : Int) (hl : ls.length ≤ 8796093022208) (h0 : 0 ≤ a) (h1 : 0 ≤ n) (h2 : a + n ≤ ls.length) : Pure Tryd.prog 33 [.slS ls, .int .i64 a, .int .i64 n, .slS now] (.agg [.int .i64 a, .slS (midL ls a n), .slS now]) := by
  have k66 := p66 (cutL ls (some a.toNat) (some (a + n).toNat)) (by simp [cutL]; omega)
  refine Pure.ofT tab_ok Tryd.func33 rfl rfl [.cell 8 31] rfl (by decide) rfl ⟨19, 5, (.node (.node (.node (.node (.node (.leaf (.slS ls)) (J 0)) (J 1)) (J 2)) (.node (.node (.node (.leaf (.int .i64 n)) (J 0)) (J 1)) (J 2))) (.node (.node (.node (.node (.leaf (.int .i64 a)) (J 0)) (J 1)) (J 2)) (.node (.node (.node (.leaf (.slS now)) (J 0)) (J 1)) (J 2)))), (OO 5)⟩ (by kernel_rfl) (by kernel_rfl) ?_
  repeat' (first
    | refine allProp_T ?_
    | exact trivial
    | (refine URun.id ?_; first
        | refine URun.nil ?_
        | refine URun.many tabs rfl rfl (by kernel_rfl) ?_ ?_
        | (refine URun.toCall 32 rfl ?_; first
          | refine URun.call tabs rfl rfl rfl rfl k66 rfl rfl ?_ rfl ?_)
        | refine URun.same tabs rfl rfl rfl ?_
        | refine URun.same2 tabs rfl rfl rfl ?_
        | refine URun.split tabs rfl rfl rfl rfl (fun h => ?_) (fun h => ?_))
    | (refine TRun.id ?_; first
        | refine TRun.nil ?_
        | refine TRun.many rfl rfl (by kernel_rfl) ?_ ?_
        | (refine TRun.toCall 32 rfl ?_; first
          | refine TRun.call rfl rfl rfl rfl k66 rfl rfl ?_ rfl ?_)
        | refine TRun.same rfl rfl rfl ?_
        | refine TRun.same2 rfl rfl rfl ?_
        | refine TRun.split rfl rfl rfl rfl (fun h => ?_) (fun h => ?_))
    | (refine HoldsT.id ?_; first
        | refine HoldsT.seq ?_
        | refine HoldsT.regionU ?_
        | refine HoldsT.drawn tabs ?_
        | refine HoldsT.yes rfl ?_
        | refine HoldsT.no rfl ?_
        | refine HoldsT.cond rfl (fun h => ?_) (fun h => ?_)
        | refine HoldsT.block ?_
        | refine HoldsT.ret ?_
        | refine HoldsT.skip ?_
        | refine HoldsT.exit ?_)
    | (refine okTr_intro ?_; kernel_rfl)
    | exact absurd rfl h
    | refine allProp_C ?_ ?_
    | refine And.intro ?_ ?_
    | omega
    | (show _ < List.length _; omega)
    | exact rowlen_intro rfl
    | exact Nat.le_of_ble_eq_true rfl
    | (simp only [AV.rowlenD, AV.rowlen, AV.ncells, toN, Option.map_some, Option.map_none, cutL, List.length_take, List.length_drop, List.length_append, List.length_cons, List.length_nil, Option.some.injEq, Int.reduceToNat] <;> omega))
  all_goals trace_state
  exact FinC.te (y := .agg [.int .i64 _, .slS _, .slS _]) rfl rfl ⟨trivial, trivial, trivial, trivial⟩ rfl
set_option maxRecDepth 10000 in
set_option maxHeartbeats 8000000 in
theorem p62 (ls : List (List UInt8)) (l c : Int) : Pure Tryd.prog 34 [.slS ls, .agg [.int .i64 l, .int .i64 c]] (.bool (placeL ls l c)) := by
  refine Pure.ofT tab_ok Tryd.func34 rfl rfl [.tmp 4] rfl (by decide) rfl ⟨31, 5, (.node (.node (.node (.node (.node (.leaf (.slS ls)) (J 0)) (J 1)) (J 2)) (J 3)) (.node (.node (.node (.node (.leaf (.agg [.int .i64 l, .int .i64 c])) (J 0)) (J 1)) (J 2)) (J 3))), (OO 5)⟩ (by kernel_rfl) (by kernel_rfl) ?_
  repeat' (first
    | refine allProp_T ?_
    | exact trivial
    | (refine URun.id ?_; first
        | refine URun.nil ?_
        | refine URun.many tabs rfl rfl (by kernel_rfl) ?_ ?_
        | refine URun.same tabs rfl rfl rfl ?_
        | refine URun.same2 tabs rfl rfl rfl ?_
        | refine URun.split tabs rfl rfl rfl rfl (fun h => ?_) (fun h => ?_))
    | (refine TRun.id ?_; first
        | refine TRun.nil ?_
        | refine TRun.many rfl rfl (by kernel_rfl) ?_ ?_
        | refine TRun.same rfl rfl rfl ?_
        | refine TRun.same2 rfl rfl rfl ?_
        | refine TRun.split rfl rfl rfl rfl (fun h => ?_) (fun h => ?_))
    | (refine HoldsT.id ?_; first
        | refine HoldsT.seq ?_
        | refine HoldsT.regionU ?_
        | refine HoldsT.drawn tabs ?_
        | refine HoldsT.yes rfl ?_
        | refine HoldsT.no rfl ?_
        | refine HoldsT.cond rfl (fun h => ?_) (fun h => ?_)
        | refine HoldsT.block ?_
        | refine HoldsT.ret ?_
        | refine HoldsT.skip ?_
        | refine HoldsT.exit ?_)
    | (refine okTr_intro ?_; kernel_rfl)
    | exact absurd rfl h
    | refine allProp_C ?_ ?_
    | refine And.intro ?_ ?_
    | omega
    | (show _ < List.length _; omega)
    | exact rowlen_intro rfl
    | exact Nat.le_of_ble_eq_true rfl
    | (simp only [AV.rowlenD, AV.rowlen, AV.ncells, toN, Option.map_some, Option.map_none, cutL, List.length_take, List.length_drop, List.length_append, List.length_cons, List.length_nil, Option.some.injEq, Int.reduceToNat] <;> omega))
  all_goals refine FinC.te (y := .bool _) rfl rfl trivial (congrArg AV.bool ?_)
  all_goals (unfold placeL; first | exact (decide_eq_true (by omega)).symm | exact (decide_eq_false (by omega)).symm)
set_option maxRecDepth 10000 in
set_option maxHeartbeats 8000000 in
theorem p37 (a b : Int) (ao an bo bn : List (List UInt8)) (h1 : ao.length ≤ 1000000000000) (h2 : an.length ≤ 1000000000000) : Pure Tryd.prog 30 [.agg [.int .i64 a, .slS ao, .slS an], .agg [.int .i64 b, .slS bo, .slS bn]] (.bool (decide (a = b) && (decide (ao = bo) && decide (an = bn)))) := by
  refine Pure.ofT tab_ok Tryd.func30 rfl rfl [.tmp 4] rfl (by decide) rfl ⟨24, 5, (.node (.node (.node (.node (.node (.leaf (.agg [.int .i64 a, .slS ao, .slS an])) (J 0)) (J 1)) (J 2)) (J 3)) (.node (.node (.node (.node (.leaf (.agg [.int .i64 b, .slS bo, .slS bn])) (J 0)) (J 1)) (J 2)) (J 3))), (OO 5)⟩ (by kernel_rfl) (by kernel_rfl) ?_
  repeat' (first
    | refine allProp_T ?_
    | exact trivial
    | (refine URun.id ?_; first
        | refine URun.nil ?_
        | refine URun.many tabs rfl rfl (by kernel_rfl) ?_ ?_
        | (refine URun.toCall 28 rfl ?_; first
          | refine URun.callB tabs rfl rfl rfl rfl (p30 _ _ h1) rfl rfl ?_ rfl rfl (fun h => ?_) (fun h => ?_)
          | refine URun.callB tabs rfl rfl rfl rfl (p30 _ _ h2) rfl rfl ?_ rfl rfl (fun h => ?_) (fun h => ?_))
        | refine URun.same tabs rfl rfl rfl ?_
        | refine URun.same2 tabs rfl rfl rfl ?_
        | refine URun.split tabs rfl rfl rfl rfl (fun h => ?_) (fun h => ?_))
    | (refine TRun.id ?_; first
        | refine TRun.nil ?_
        | refine TRun.many rfl rfl (by kernel_rfl) ?_ ?_
        | (refine TRun.toCall 28 rfl ?_; first
          | refine TRun.callB rfl rfl rfl rfl (p30 _ _ h1) rfl rfl ?_ rfl rfl (fun h => ?_) (fun h => ?_)
          | refine TRun.callB rfl rfl rfl rfl (p30 _ _ h2) rfl rfl ?_ rfl rfl (fun h => ?_) (fun h => ?_))
        | refine TRun.same rfl rfl rfl ?_
        | refine TRun.same2 rfl rfl rfl ?_
        | refine TRun.split rfl rfl rfl rfl (fun h => ?_) (fun h => ?_))
    | (refine HoldsT.id ?_; first
        | refine HoldsT.seq ?_
        | refine HoldsT.regionU ?_
        | refine HoldsT.drawn tabs ?_
        | refine HoldsT.yes rfl ?_
        | refine HoldsT.no rfl ?_
        | refine HoldsT.cond rfl (fun h => ?_) (fun h => ?_)
        | refine HoldsT.block ?_
        | refine HoldsT.ret ?_
        | refine HoldsT.skip ?_
        | refine HoldsT.exit ?_)
    | (refine okTr_intro ?_; kernel_rfl)
    | exact absurd rfl h
    | refine allProp_C ?_ ?_
    | refine And.intro ?_ ?_
    | omega
    | (show _ < List.length _; omega)
    | exact rowlen_intro rfl
    | exact Nat.le_of_ble_eq_true rfl
    | (simp only [AV.rowlenD, AV.rowlen, AV.ncells, toN, Option.map_some, Option.map_none, cutL, List.length_take, List.length_drop, List.length_append, List.length_cons, List.length_nil, Option.some.injEq, Int.reduceToNat] <;> omega))
  all_goals refine FinC.te (y := .bool _) rfl rfl trivial (congrArg AV.bool ?_)
  all_goals simp_all
/-- A text that is written into a line: its lines. -/
def writeL (s : List UInt8) (c : Int) (t : List (List UInt8)) : List (List UInt8) :=
  (t.set 0 (cutL s none (some c.toNat) ++ t.getD 0 [])).set ((t.length : Int) - 1).toNat ((t.set 0 (cutL s none (some c.toNat) ++ t.getD 0 [])).getD ((t.length : Int) - 1).toNat [] ++ cutL s (some c.toNat) none)
structure TyR where
  ok : Bool
  at' : Int
  old : List (List UInt8)
  new : List (List UInt8)
  l : Int
  c : Int
def TyR.av (r : TyR) : AV := .tup [.agg [.int .i64 r.at', .slS r.old, .slS r.new], .agg [.int .i64 r.l, .int .i64 r.c], .bool r.ok]
def tyNo : TyR := ⟨false, 0, [], [], 0, 0⟩
theorem noLe : AVle (.tup [.agg [.int .i64 0, .nilsl, .nilsl], .agg [.int .i64 0, .int .i64 0], .bool false]) tyNo.av :=
  .tup (.cons (.agg (.cons (.refl _) (.cons .nilS (.cons .nilS .nil)))) (.cons (.refl _) (.cons (.refl _) .nil)))
theorem getD_set_le {t : List (List UInt8)} {x : List UInt8} {i n b : Nat} (ht : ∀ n : Nat, (t.getD n []).length ≤ b) (hx : x.length ≤ b) : ((t.set i x).getD n []).length ≤ b := by
  rw [getD_set]
  split
  · exact hx
  · exact ht n
theorem cutL_le {α : Type} (l : List α) (a b : Option Nat) : (cutL l a b).length ≤ l.length := by
  cases a <;> cases b <;> simp [cutL] <;> omega
set_option maxRecDepth 10000 in
set_option maxHeartbeats 8000000 in
theorem p60_no (ls t : List (List UInt8)) (l c : Int) (h : placeL ls l c = false ∨ t = []) : Pure Tryd.prog 13 [.slS ls, .agg [.int .i64 l, .int .i64 c], .slS t] tyNo.av := by
  have k58 := p58 ls l c
  cases hp : placeL ls l c with
  | false =>
    rw [hp] at k58
    refine Pure.ofT tab_ok Tryd.func13 rfl rfl [.cell 6 31, .cell 7 24, .tmp 8] rfl (by decide) rfl ⟨70, 7, (.node (.node (.node (.node (.node (.node (.node (.leaf (.slS ls)) (J 0)) (J 1)) (J 2)) (J 3)) (J 4)) (.node (.node (.node (.node (.node (.leaf (.slS t)) (J 0)) (J 1)) (J 2)) (J 3)) (J 4))) (.node (.node (.node (.node (.node (.node (.leaf (.agg [.int .i64 l, .int .i64 c])) (J 0)) (J 1)) (J 2)) (J 3)) (J 4)) (J 5))), (OO 7)⟩ (by kernel_rfl) (by kernel_rfl) ?_
    repeat' (first
      | refine allProp_T ?_
      | exact trivial
      | (refine URun.id ?_; first
          | refine URun.nil ?_
          | refine URun.many tabs rfl rfl (by kernel_rfl) ?_ ?_
          | (refine URun.toCall 31 rfl ?_; first
            | refine URun.call tabs rfl rfl rfl rfl k58 rfl rfl ?_ rfl ?_)
          | refine URun.same tabs rfl rfl rfl ?_
          | refine URun.same2 tabs rfl rfl rfl ?_
          | refine URun.split tabs rfl rfl rfl rfl (fun h => ?_) (fun h => ?_))
      | (refine TRun.id ?_; first
          | refine TRun.nil ?_
          | refine TRun.many rfl rfl (by kernel_rfl) ?_ ?_
          | (refine TRun.toCall 31 rfl ?_; first
            | refine TRun.call rfl rfl rfl rfl k58 rfl rfl ?_ rfl ?_)
          | refine TRun.same rfl rfl rfl ?_
          | refine TRun.same2 rfl rfl rfl ?_
          | refine TRun.split rfl rfl rfl rfl (fun h => ?_) (fun h => ?_))
      | (refine HoldsT.id ?_; first
          | refine HoldsT.seq ?_
          | refine HoldsT.regionU ?_
          | refine HoldsT.drawn tabs ?_
          | refine HoldsT.yes rfl ?_
          | refine HoldsT.no rfl ?_
          | refine HoldsT.cond rfl (fun h => ?_) (fun h => ?_)
          | refine HoldsT.block ?_
          | refine HoldsT.ret ?_
          | refine HoldsT.skip ?_
          | refine HoldsT.exit ?_)
      | (refine okTr_intro ?_; kernel_rfl)
      | exact absurd rfl h
      | refine allProp_C ?_ ?_
      | refine And.intro ?_ ?_
      | omega
      | (show _ < List.length _; omega)
      | exact rowlen_intro rfl
      | exact lenEq_intro rfl
      | exact Nat.le_of_ble_eq_true rfl
      | (simp only [AV.rowlenD, AV.rowlen, AV.ncells, mulSz, toN, Option.map_some, Option.map_none, cutL, List.length_take, List.length_drop, List.length_append, List.length_cons, List.length_nil, List.length_set, Option.some.injEq, Int.reduceToNat] <;> omega))
    exact FinC.t (y := .tup [.agg [.int .i64 _, .nilsl, .nilsl], .agg [.int .i64 _, .int .i64 _], .bool _]) rfl rfl ⟨⟨trivial, trivial, trivial, trivial⟩, ⟨trivial, trivial, trivial⟩, trivial, trivial⟩ noLe
  | true =>
    rw [hp] at h k58
    obtain rfl : t = [] := h.resolve_left (by simp)
    refine Pure.ofT tab_ok Tryd.func13 rfl rfl [.cell 6 31, .cell 7 24, .tmp 8] rfl (by decide) rfl ⟨70, 7, (.node (.node (.node (.node (.node (.node (.node (.leaf (.slS ls)) (J 0)) (J 1)) (J 2)) (J 3)) (J 4)) (.node (.node (.node (.node (.node (.leaf (.slS [])) (J 0)) (J 1)) (J 2)) (J 3)) (J 4))) (.node (.node (.node (.node (.node (.node (.leaf (.agg [.int .i64 l, .int .i64 c])) (J 0)) (J 1)) (J 2)) (J 3)) (J 4)) (J 5))), (OO 7)⟩ (by kernel_rfl) (by kernel_rfl) ?_
    repeat' (first
      | refine allProp_T ?_
      | exact trivial
      | (refine URun.id ?_; first
          | refine URun.nil ?_
          | refine URun.many tabs rfl rfl (by kernel_rfl) ?_ ?_
          | (refine URun.toCall 31 rfl ?_; first
            | refine URun.call tabs rfl rfl rfl rfl k58 rfl rfl ?_ rfl ?_)
          | refine URun.same tabs rfl rfl rfl ?_
          | refine URun.same2 tabs rfl rfl rfl ?_
          | refine URun.split tabs rfl rfl rfl rfl (fun h => ?_) (fun h => ?_))
      | (refine TRun.id ?_; first
          | refine TRun.nil ?_
          | refine TRun.many rfl rfl (by kernel_rfl) ?_ ?_
          | (refine TRun.toCall 31 rfl ?_; first
            | refine TRun.call rfl rfl rfl rfl k58 rfl rfl ?_ rfl ?_)
          | refine TRun.same rfl rfl rfl ?_
          | refine TRun.same2 rfl rfl rfl ?_
          | refine TRun.split rfl rfl rfl rfl (fun h => ?_) (fun h => ?_))
      | (refine HoldsT.id ?_; first
          | refine HoldsT.seq ?_
          | refine HoldsT.regionU ?_
          | refine HoldsT.drawn tabs ?_
          | refine HoldsT.yes rfl ?_
          | refine HoldsT.no rfl ?_
          | refine HoldsT.cond rfl (fun h => ?_) (fun h => ?_)
          | refine HoldsT.block ?_
          | refine HoldsT.ret ?_
          | refine HoldsT.skip ?_
          | refine HoldsT.exit ?_)
      | (refine okTr_intro ?_; kernel_rfl)
      | exact absurd rfl h
      | refine allProp_C ?_ ?_
      | refine And.intro ?_ ?_
      | omega
      | (show _ < List.length _; omega)
      | exact rowlen_intro rfl
      | exact lenEq_intro rfl
      | exact Nat.le_of_ble_eq_true rfl
      | (simp only [AV.rowlenD, AV.rowlen, AV.ncells, mulSz, toN, Option.map_some, Option.map_none, cutL, List.length_take, List.length_drop, List.length_append, List.length_cons, List.length_nil, List.length_set, Option.some.injEq, Int.reduceToNat] <;> omega))
    exact FinC.t (y := .tup [.agg [.int .i64 _, .nilsl, .nilsl], .agg [.int .i64 _, .int .i64 _], .bool _]) rfl rfl ⟨⟨trivial, trivial, trivial, trivial⟩, ⟨trivial, trivial, trivial⟩, trivial, trivial⟩ noLe
set_option maxRecDepth 10000 in
set_option maxHeartbeats 8000000 in
theorem p60 (ls t : List (List UInt8)) (l c : Int) (hl : ls.length ≤ 8796093022208) (ht : t.length ≤ 1000000000) (hB : ∀ n : Nat, (ls.getD n []).length ≤ 140737488355328) (hT : ∀ n : Nat, (t.getD n []).length ≤ 140737488355328) (h : placeL ls l c = true) (h0 : 0 < (t.length : Int)) :
    Pure Tryd.prog 13 [.slS ls, .agg [.int .i64 l, .int .i64 c], .slS t] (TyR.av ⟨true, l, midL ls l 1, writeL (ls.getD l.toNat []) c t, l + ((t.length : Int) - 1), ((t.set 0 (cutL (ls.getD l.toNat []) none (some c.toNat) ++ t.getD 0 [])).getD ((t.length : Int) - 1).toNat []).length⟩) := by
  have k58 := p58 ls l c
  rw [h] at k58
  obtain ⟨hq1, hq2, hq3, hq4⟩ := of_decide_eq_true h
  have hb := hB l.toNat
  have ht0 := hT 0
  have hb2 : ((t.set 0 (cutL (ls.getD l.toNat []) none (some c.toNat) ++ t.getD 0 [])).getD ((t.length : Int) - 1).toNat []).length ≤ 281474976710656 :=
    getD_set_le (fun n => by have := hT n; omega) (by have := cutL_le (ls.getD l.toNat []) none (some c.toNat); rw [List.length_append]; omega)
  have hb3 : (cutL (ls.getD l.toNat []) (some c.toNat) none).length ≤ 140737488355328 := by have := cutL_le (ls.getD l.toNat []) (some c.toNat) none; omega
  have o66 := own66 t (by omega)
  refine Pure.ofT tab_ok Tryd.func13 rfl rfl [.cell 6 31, .cell 7 24, .tmp 8] rfl (by decide) rfl ⟨70, 7, (.node (.node (.node (.node (.node (.node (.node (.leaf (.slS ls)) (J 0)) (J 1)) (J 2)) (J 3)) (J 4)) (.node (.node (.node (.node (.node (.leaf (.slS t)) (J 0)) (J 1)) (J 2)) (J 3)) (J 4))) (.node (.node (.node (.node (.node (.node (.leaf (.agg [.int .i64 l, .int .i64 c])) (J 0)) (J 1)) (J 2)) (J 3)) (J 4)) (J 5))), (OO 7)⟩ (by kernel_rfl) (by kernel_rfl) ?_
  repeat' (first
    | refine allProp_T ?_
    | exact trivial
    | (refine URun.id ?_; first
        | refine URun.nil ?_
        | refine URun.many tabs rfl rfl (by kernel_rfl) ?_ ?_
        | (refine URun.toCall 31 rfl ?_; first
          | refine URun.call tabs rfl rfl rfl rfl k58 rfl rfl ?_ rfl ?_)
        | (refine URun.toCall 33 rfl ?_; first
          | refine URun.call tabs rfl rfl rfl rfl (p80 ls _ l 1 hl hq1 (by omega) (by omega)) rfl rfl ?_ rfl ?_)
        | (refine URun.toCall 32 rfl ?_; refine URun.own rfl rfl rfl rfl o66 rfl rfl ?_ rfl (by kernel_rfl) rfl rfl ?_)
        | refine URun.same tabs rfl rfl rfl ?_
        | refine URun.same2 tabs rfl rfl rfl ?_
        | refine URun.yes tabs rfl rfl (by omega) rfl ?_
        | refine URun.no tabs rfl rfl (by omega) rfl ?_
        | refine URun.split tabs rfl rfl rfl rfl (fun h => ?_) (fun h => ?_))
    | (refine TRun.id ?_; first
        | refine TRun.nil ?_
        | refine TRun.many rfl rfl (by kernel_rfl) ?_ ?_
        | (refine TRun.toCall 31 rfl ?_; first
          | refine TRun.call rfl rfl rfl rfl k58 rfl rfl ?_ rfl ?_)
        | (refine TRun.toCall 33 rfl ?_; first
          | refine TRun.call rfl rfl rfl rfl (p80 ls _ l 1 hl hq1 (by omega) (by omega)) rfl rfl ?_ rfl ?_)
        | refine TRun.same rfl rfl rfl ?_
        | refine TRun.same2 rfl rfl rfl ?_
        | refine TRun.yes rfl rfl (by omega) rfl ?_
        | refine TRun.no rfl rfl (by omega) rfl ?_
        | refine TRun.split rfl rfl rfl rfl (fun h => ?_) (fun h => ?_))
    | (refine HoldsT.id ?_; first
        | refine HoldsT.seq ?_
        | refine HoldsT.regionU ?_
        | refine HoldsT.drawn tabs ?_
        | refine HoldsT.yes rfl ?_
        | refine HoldsT.no rfl ?_
        | refine HoldsT.cond rfl (fun h => ?_) (fun h => ?_)
        | refine HoldsT.block ?_
        | refine HoldsT.ret ?_
        | refine HoldsT.skip ?_
        | refine HoldsT.exit ?_)
    | (refine okTr_intro ?_; kernel_rfl)
    | exact absurd rfl h
    | exact Nat.le_trans (Nat.add_le_add hb2 hb3) (by decide)
    | refine allProp_C ?_ ?_
    | refine And.intro ?_ ?_
    | omega
    | (show _ < List.length _; omega)
    | exact rowlen_intro rfl
    | exact lenEq_intro rfl
    | exact Nat.le_of_ble_eq_true rfl
    | (simp only [AV.rowlenD, AV.rowlen, AV.ncells, mulSz, toN, Option.map_some, Option.map_none, cutL, List.length_take, List.length_drop, List.length_append, List.length_cons, List.length_nil, List.length_set, Option.some.injEq, Int.reduceToNat] <;> omega))
  all_goals first | exact FinC.te (y := .tup [.agg [.int .i64 _, .slS _, .slS _], .agg [.int .i64 _, .int .i64 _], .bool _]) rfl rfl ⟨⟨trivial, trivial, trivial, trivial⟩, ⟨trivial, trivial, trivial⟩, trivial, trivial⟩ rfl | trace_state
theorem mid_one {ls : List (List UInt8)} {l : Int} (h0 : 0 ≤ l) (h1 : l < ls.length) : midL ls l 1 = [ls.getD l.toNat []] := by
  unfold midL cutL
  simp only
  have hlt : l.toNat < ls.length := by omega
  rw [show (l + 1).toNat = l.toNat + 1 by omega, List.take_add_one, List.getElem?_eq_getElem hlt, List.drop_append]
  have : (ls.take l.toNat).length = l.toNat := by rw [List.length_take]; omega
  rw [List.drop_eq_nil_of_le (by omega)]
  simp [this, show l.toNat < ls.length by omega]
theorem Pure.le {P : Program} {f : FuncId} {args args' : List AV} {r : AV} (h : Pure P f args' r) (ha : AVles args args') : Pure P f args r := by
  obtain ⟨h1, h2, h3⟩ := h
  refine ⟨h1, h2, fun A w vs hA hl hv => h3 A w vs hA (by rw [hl, ha.length]) fun i x hx => ?_⟩
  obtain ⟨y, hy, hle⟩ := ha.some hx
  exact hle.run _ _ _ _ (hv i y hy)
def sh81 (a b : List (List UInt8)) (k : Int) : TS := ⟨26, 5, (.node (.node (.node (.node (.node (.leaf (.slS a)) (J 0)) (J 1)) (J 2)) (J 3)) (.node (.node (.node (.node (.leaf (.slS b)) (J 0)) (J 1)) (.node (.node (.leaf (.int .i64 k)) (J 0)) (J 1))) (J 3))), (OO 5)⟩
set_option maxRecDepth 10000 in
set_option maxHeartbeats 8000000 in
theorem p81 (a b : List (List UInt8)) (ha : a.length ≤ 1000000000000) : Pure Tryd.prog 58 [.slS a, .slS b] (.bool (decide (a = b))) := by
  refine Pure.ofT tab_ok Tryd.func58 rfl rfl [.tmp 4] rfl (by decide) rfl ⟨26, 5, (.node (.node (.node (.node (.node (.leaf (.slS a)) (J 0)) (J 1)) (J 2)) (J 3)) (.node (.node (.node (.node (.leaf (.slS b)) (J 0)) (J 1)) (J 2)) (J 3))), (OO 5)⟩ (by kernel_rfl) (by kernel_rfl) ?_
  repeat' (first
    | refine allProp_T ?_
    | exact trivial
    | (refine URun.id ?_; first
        | refine URun.nil ?_
        | refine URun.many tabs rfl rfl (by kernel_rfl) ?_ ?_
        | refine URun.same tabs rfl rfl rfl ?_
        | refine URun.same2 tabs rfl rfl rfl ?_
        | refine URun.split tabs rfl rfl rfl rfl (fun h => ?_) (fun h => ?_))
    | (refine TRun.id ?_; first
        | refine TRun.nil ?_
        | refine TRun.many rfl rfl (by kernel_rfl) ?_ ?_
        | refine TRun.same rfl rfl rfl ?_
        | refine TRun.same2 rfl rfl rfl ?_
        | refine TRun.split rfl rfl rfl rfl (fun h => ?_) (fun h => ?_))
    | (refine HoldsT.id ?_; first
        | refine HoldsT.seq ?_
        | refine HoldsT.regionU ?_
        | refine HoldsT.drawn tabs ?_
        | refine HoldsT.yes rfl ?_
        | refine HoldsT.no rfl ?_
        | refine HoldsT.cond rfl (fun h => ?_) (fun h => ?_)
        | refine HoldsT.block ?_
        | refine HoldsT.ret ?_
        | refine HoldsT.skip ?_
        | refine HoldsT.exit ?_)
    | (refine okTr_intro ?_; kernel_rfl)
    | exact absurd rfl h
    | refine allProp_C ?_ ?_
    | refine And.intro ?_ ?_
    | omega
    | (show _ < List.length _; omega)
    | exact rowlen_intro rfl
    | exact lenEq_intro rfl
    | exact Nat.le_of_ble_eq_true rfl
    | (simp only [AV.rowlenD, AV.rowlen, AV.ncells, mulSz, toN, Option.map_some, Option.map_none, cutL, List.length_take, List.length_drop, List.length_append, List.length_cons, List.length_nil, List.length_set, Option.some.injEq, Int.reduceToNat] <;> omega))
  · exact FinC.te (y := .bool _) rfl rfl trivial (congrArg AV.bool (decide_eq_false (fun e => by subst e; omega)).symm)
  · refine HoldsT.loop (fun k : Int => sh81 a b k) (fun k => (a.length - k).toNat) (fun k => 0 ≤ k ∧ k ≤ a.length ∧ a.take k.toNat = b.take k.toNat) 0 ?_ ?_ (fun _ => by kernel_rfl) ?_
    · refine WeakT.of ?_ ?_ (by kernel_rfl)
      · repeat' (first | exact TTle.junk _ _ | exact TTle.same _ | refine TTle.node ?_ ?_ | refine TTle.leaf ?_ | exact AVle.junk _ | exact AVle.rfl' rfl | exact AVle.nilS | exact AVle.nilB)
      · repeat' (first | exact OOle.none _ _ | exact OOle.same _ | refine OOle.node ?_ ?_ | exact OOle.leaf _ | exact OOle.gone _)
    · exact ⟨by simp, by simp, by simp⟩
    · intro k hk
      obtain ⟨h1, h2, h3⟩ := hk
      show HoldsT Tryd.prog _ (sh81 a b k) _
      repeat' (first
        | refine allProp_T ?_
        | exact trivial
        | (refine URun.id ?_; first
            | refine URun.nil ?_
            | refine URun.many tabs rfl rfl (by kernel_rfl) ?_ ?_
            | refine URun.same tabs rfl rfl rfl ?_
            | refine URun.same2 tabs rfl rfl rfl ?_
            | refine URun.split tabs rfl rfl rfl rfl (fun h => ?_) (fun h => ?_))
        | (refine TRun.id ?_; first
            | refine TRun.nil ?_
            | refine TRun.many rfl rfl (by kernel_rfl) ?_ ?_
            | refine TRun.same rfl rfl rfl ?_
            | refine TRun.same2 rfl rfl rfl ?_
            | refine TRun.split rfl rfl rfl rfl (fun h => ?_) (fun h => ?_))
        | (refine HoldsT.id ?_; first
            | refine HoldsT.seq ?_
            | refine HoldsT.regionU ?_
            | refine HoldsT.drawn tabs ?_
            | refine HoldsT.yes rfl ?_
            | refine HoldsT.no rfl ?_
            | refine HoldsT.cond rfl (fun h => ?_) (fun h => ?_)
            | refine HoldsT.block ?_
            | refine HoldsT.ret ?_
            | refine HoldsT.skip ?_
            | refine HoldsT.exit ?_)
        | (refine okTr_intro ?_; kernel_rfl)
        | exact absurd rfl h
        | refine allProp_C ?_ ?_
        | refine And.intro ?_ ?_
        | omega
        | (show _ < List.length _; omega)
        | exact rowlen_intro rfl
        | exact lenEq_intro rfl
        | exact Nat.le_of_ble_eq_true rfl
        | (simp only [AV.rowlenD, AV.rowlen, AV.ncells, mulSz, toN, Option.map_some, Option.map_none, cutL, List.length_take, List.length_drop, List.length_append, List.length_cons, List.length_nil, List.length_set, Option.some.injEq, Int.reduceToNat] <;> omega))
      · exact FinC.te (y := .bool _) rfl rfl trivial (congrArg AV.bool (decide_eq_false (fun e => by subst e; exact h rfl)).symm)
      · refine ⟨k + 1, ⟨by omega, by omega, by omega, ?_⟩, ?_⟩
        · rw [toNat_succ h1]; exact take_succ_eq (d := []) h3 (by omega) (by omega) (Classical.not_not.1 h)
        · refine WeakT.of ?_ ?_ (by kernel_rfl)
          · repeat' (first | exact TTle.junk _ _ | exact TTle.same _ | refine TTle.node ?_ ?_ | refine TTle.leaf ?_ | exact AVle.junk _ | exact AVle.rfl' rfl | exact AVle.nilS | exact AVle.nilB)
          · repeat' (first | exact OOle.none _ _ | exact OOle.same _ | refine OOle.node ?_ ?_ | exact OOle.leaf _ | exact OOle.gone _)
      · refine FinC.te (y := .bool _) rfl rfl trivial (congrArg AV.bool (decide_eq_true ?_).symm)
        rw [List.take_of_length_le (by omega), List.take_of_length_le (by omega)] at h3
        exact h3
/-- A change that is done. -/
def appOk (ls : List (List UInt8)) (at' : Int) (old new : List (List UInt8)) : Bool :=
  decide (0 ≤ at' ∧ at' ≤ ls.length ∧ (old.length : Int) ≤ ls.length - at' ∧ midL ls at' old.length = old ∧ (ls.length : Int) - old.length + new.length ≠ 0)
def appL (ls : List (List UInt8)) (at' : Int) (old new : List (List UInt8)) : List (List UInt8) :=
  if appOk ls at' old new = true then cutL ls none (some at'.toNat) ++ new ++ cutL ls (some (at' + old.length).toNat) none else []
theorem appNo {ls old new : List (List UInt8)} {a : Int} (h : appOk ls a old new = false) : AVle (.tup [.nilsl, .bool false]) (.tup [.slS (appL ls a old new), .bool (appOk ls a old new)]) := by
  rw [appL, h]
  exact .tup (.cons .nilS (.cons (.refl _) .nil))
theorem appYes {ls old new : List (List UInt8)} {a : Int} (h : appOk ls a old new = true) : AVle (.tup [.slS (cutL ls none (some a.toNat) ++ new ++ cutL ls (some (a + old.length).toNat) none), .bool true]) (.tup [.slS (appL ls a old new), .bool (appOk ls a old new)]) := by
  rw [appL, h]
  exact .refl _
set_option maxRecDepth 10000 in
set_option maxHeartbeats 8000000 in
theorem p64 (ls old new : List (List UInt8)) (a : Int) (hl : ls.length ≤ 1000000000) (ho : old.length ≤ 1000000000) (hn : new.length ≤ 1000000000) : Pure Tryd.prog 40 [.slS ls, .agg [.int .i64 a, .slS old, .slS new]] (.tup [.slS (appL ls a old new), .bool (appOk ls a old new)]) := by
  have k81 := p81 (cutL ls (some a.toNat) (some (a + old.length).toNat)) old (by have := cutL_le ls (some a.toNat) (some (a + old.length).toNat); omega)
  refine Pure.ofT tab_ok Tryd.func40 rfl rfl [.tmp 4, .tmp 5] rfl (by decide) rfl ⟨75, 7, (.node (.node (.node (.node (.node (.node (.node (.leaf (.slS ls)) (J 0)) (J 1)) (J 2)) (J 3)) (J 4)) (J 5)) (.node (.node (.node (.node (.node (.node (.leaf (.agg [.int .i64 a, .slS old, .slS new])) (J 0)) (J 1)) (J 2)) (J 3)) (J 4)) (J 5))), (OO 7)⟩ (by kernel_rfl) (by kernel_rfl) ?_
  repeat' (first
    | refine allProp_T ?_
    | exact trivial
    | (refine URun.id ?_; first
        | refine URun.nil ?_
        | refine URun.many tabs rfl rfl (by kernel_rfl) ?_ ?_
        | (refine URun.toCall 58 rfl ?_; first
          | refine URun.callB tabs rfl rfl rfl rfl k81 rfl rfl ?_ rfl rfl (fun h => ?_) (fun h => ?_))
        | refine URun.same tabs rfl rfl rfl ?_
        | refine URun.same2 tabs rfl rfl rfl ?_
        | refine URun.split tabs rfl rfl rfl rfl (fun h => ?_) (fun h => ?_))
    | (refine TRun.id ?_; first
        | refine TRun.nil ?_
        | refine TRun.many rfl rfl (by kernel_rfl) ?_ ?_
        | (refine TRun.toCall 58 rfl ?_; first
          | refine TRun.callB rfl rfl rfl rfl k81 rfl rfl ?_ rfl rfl (fun h => ?_) (fun h => ?_))
        | refine TRun.same rfl rfl rfl ?_
        | refine TRun.same2 rfl rfl rfl ?_
        | refine TRun.split rfl rfl rfl rfl (fun h => ?_) (fun h => ?_))
    | (refine HoldsT.id ?_; first
        | refine HoldsT.seq ?_
        | refine HoldsT.regionU ?_
        | refine HoldsT.drawn tabs ?_
        | refine HoldsT.yes rfl ?_
        | refine HoldsT.no rfl ?_
        | refine HoldsT.cond rfl (fun h => ?_) (fun h => ?_)
        | refine HoldsT.block ?_
        | refine HoldsT.ret ?_
        | refine HoldsT.skip ?_
        | refine HoldsT.exit ?_)
    | (refine okTr_intro ?_; kernel_rfl)
    | exact absurd rfl h
    | refine allProp_C ?_ ?_
    | refine And.intro ?_ ?_
    | omega
    | (show _ < List.length _; omega)
    | exact rowlen_intro rfl
    | exact lenEq_intro rfl
    | exact Nat.le_of_ble_eq_true rfl
    | (simp only [AV.rowlenD, AV.rowlen, AV.ncells, mulSz, toN, Option.map_some, Option.map_none, cutL, List.length_take, List.length_drop, List.length_append, List.length_cons, List.length_nil, List.length_set, Option.some.injEq, Int.reduceToNat] <;> omega))
  all_goals first
    | exact FinC.t (y := .tup [.nilsl, .bool _]) rfl rfl ⟨trivial, trivial, trivial⟩ (appNo (decide_eq_false (fun hh => by omega)))
    | exact FinC.t (y := .tup [.nilsl, .bool _]) rfl rfl ⟨trivial, trivial, trivial⟩ (appNo (decide_eq_false (fun hh => (of_decide_eq_false h) hh.2.2.2.1)))
    | (have hm := of_decide_eq_true ‹decide (cutL ls (some a.toNat) (some (a + old.length).toNat) = old) = true›
       refine FinC.t (y := .tup [.slS _, .bool true]) rfl rfl ⟨⟨?_, trivial⟩, trivial, trivial⟩ (appYes (decide_eq_true ⟨by omega, by omega, by omega, hm, by omega⟩))
       simp only [AV.rowlenD, AV.rowlen, AV.ncells, mulSz, toN, Option.map_some, Option.map_none, cutL, List.length_take, List.length_drop, List.length_append, List.length_cons, List.length_nil, List.length_set, Option.some.injEq, Int.reduceToNat])
theorem rowG3 (a b c : AV) : (AV.slG 3 [a, b, c]).rowlen = some ([a, b, c].length / 3) := by simp [AV.rowlen]
theorem d3a (a b c : AV) : (0 : Int) < (([a, b, c].length / 3 : Nat) : Int) := by simp
theorem d3b (a b c : AV) : ¬ (0 + 1 : Int) < (([a, b, c].length / 3 : Nat) : Int) := by simp
set_option maxRecDepth 10000 in
set_option maxHeartbeats 8000000 in
theorem p41 (ls old new : List (List UInt8)) (a : Int) (hl : ls.length ≤ 1000000000) (ho : old.length ≤ 1000000000) (hn : new.length ≤ 1000000000) : Pure Tryd.prog 21 [.slS ls, .slG 3 [.int .i64 a, .slS old, .slS new]] (.tup [.slS (appL ls a old new), .bool (appOk ls a old new)]) := by
  have k64 := p64 ls old new a hl ho hn
  refine Pure.ofT tab_ok Tryd.func21 rfl rfl [.tmp 4, .tmp 5] rfl (by decide) rfl ⟨29, 5, (.node (.node (.node (.node (.node (.leaf (.slS ls)) (J 0)) (J 1)) (J 2)) (J 3)) (.node (.node (.node (.node (.leaf (.slG 3 [.int .i64 a, .slS old, .slS new])) (J 0)) (J 1)) (J 2)) (J 3))), (OO 5)⟩ (by kernel_rfl) (by kernel_rfl) ?_
  repeat' (first
    | refine allProp_T ?_
    | exact trivial
    | (refine URun.id ?_; first
        | refine URun.nil ?_
        | refine URun.many tabs rfl rfl (by kernel_rfl) ?_ ?_
        | (refine URun.toCall 40 rfl ?_; first
          | refine URun.call tabs rfl rfl rfl rfl k64 rfl rfl ?_ rfl ?_)
        | refine URun.same tabs rfl rfl rfl ?_
        | refine URun.same2 tabs rfl rfl rfl ?_
        | refine URun.yes tabs rfl rfl (d3a _ _ _) rfl ?_
        | refine URun.no tabs rfl rfl (d3a _ _ _) rfl ?_
        | refine URun.yes tabs rfl rfl (d3b _ _ _) rfl ?_
        | refine URun.no tabs rfl rfl (d3b _ _ _) rfl ?_
        | refine URun.split tabs rfl rfl rfl rfl (fun h => ?_) (fun h => ?_))
    | (refine TRun.id ?_; first
        | refine TRun.nil ?_
        | refine TRun.many rfl rfl (by kernel_rfl) ?_ ?_
        | (refine TRun.toCall 40 rfl ?_; first
          | refine TRun.call rfl rfl rfl rfl k64 rfl rfl ?_ rfl ?_)
        | refine TRun.same rfl rfl rfl ?_
        | refine TRun.same2 rfl rfl rfl ?_
        | refine TRun.yes rfl rfl (d3a _ _ _) rfl ?_
        | refine TRun.no rfl rfl (d3a _ _ _) rfl ?_
        | refine TRun.yes rfl rfl (d3b _ _ _) rfl ?_
        | refine TRun.no rfl rfl (d3b _ _ _) rfl ?_
        | refine TRun.split rfl rfl rfl rfl (fun h => ?_) (fun h => ?_))
    | (refine HoldsT.id ?_; first
        | refine HoldsT.seq ?_
        | refine HoldsT.regionU ?_
        | refine HoldsT.drawn tabs ?_
        | refine HoldsT.yes rfl ?_
        | refine HoldsT.no rfl ?_
        | refine HoldsT.cond rfl (fun h => ?_) (fun h => ?_)
        | refine HoldsT.block ?_
        | refine HoldsT.ret ?_
        | refine HoldsT.skip ?_
        | refine HoldsT.exit ?_)
    | refine HoldsT.rounds 2 ?_
    | refine HoldsT.round ?_
    | (refine okTr_intro ?_; kernel_rfl)
    | exact absurd rfl h
    | exact rowG3 _ _ _
    | refine allProp_C ?_ ?_
    | refine And.intro ?_ ?_
    | omega
    | (show _ < List.length _; omega)
    | exact rowlen_intro rfl
    | exact lenEq_intro rfl
    | exact Nat.le_of_ble_eq_true rfl
    | (simp only [AV.rowlenD, AV.rowlen, AV.ncells, mulSz, toN, Option.map_some, Option.map_none, cutL, List.length_take, List.length_drop, List.length_append, List.length_cons, List.length_nil, List.length_set, Option.some.injEq, Int.reduceToNat] <;> omega))
  · refine FinC.t (y := .tup [.nilsl, .bool _]) rfl rfl ⟨trivial, trivial, trivial⟩ (appNo ?_)
    simpa using h
  · have h' : appOk ls a old new = true := by simpa using h
    rw [h']
    exact FinC.te (y := .tup [.slS _, .bool _]) rfl rfl ⟨trivial, trivial, trivial⟩ rfl
theorem getD_append_le {x y : List (List UInt8)} {b : Nat} (hx : ∀ n : Nat, (x.getD n []).length ≤ b) (hy : ∀ n : Nat, (y.getD n []).length ≤ b) (n : Nat) : ((x ++ y).getD n []).length ≤ b := by
  simp only [List.getD_eq_getElem?_getD] at *
  rw [List.getElem?_append]
  split
  · exact hx n
  · exact hy _
theorem getD_cut_le {x : List (List UInt8)} {b : Nat} (hx : ∀ n : Nat, (x.getD n []).length ≤ b) (p q : Option Nat) (n : Nat) : ((cutL x p q).getD n []).length ≤ b := by
  have tk : ∀ (y : List (List UInt8)) (k : Nat), (∀ n : Nat, (y.getD n []).length ≤ b) → ∀ n : Nat, ((y.take k).getD n []).length ≤ b := fun y k hy n => by
    simp only [List.getD_eq_getElem?_getD] at *
    rw [List.getElem?_take]
    split
    · exact hy n
    · simp
  have dr : ∀ (y : List (List UInt8)) (k : Nat), (∀ n : Nat, (y.getD n []).length ≤ b) → ∀ n : Nat, ((y.drop k).getD n []).length ≤ b := fun y k hy n => by
    simp only [List.getD_eq_getElem?_getD] at *
    rw [List.getElem?_drop]
    exact hy _
  cases p <;> cases q <;> simp only [cutL]
  · exact hx n
  · exact tk _ _ hx n
  · exact dr _ _ hx n
  · exact dr _ _ (tk _ _ hx) n
theorem appL_small {ls old new : List (List UInt8)} {a : Int} {b : Nat} (hb : ∀ n : Nat, (ls.getD n []).length ≤ b) (hn : ∀ n : Nat, (new.getD n []).length ≤ b) : (appL ls a old new).length ≤ ls.length + new.length ∧ ∀ n : Nat, ((appL ls a old new).getD n []).length ≤ b := by
  unfold appL
  split
  · rename_i h
    have h' := of_decide_eq_true h
    refine ⟨?_, getD_append_le (getD_append_le (getD_cut_le hb _ _) hn) (getD_cut_le hb _ _)⟩
    simp only [cutL, List.length_append, List.length_take, List.length_drop]
    omega
  · exact ⟨by simp, fun n => by simp⟩
theorem rowGk {sz n : Nat} {cs : List AV} {a b c : AV} (hs : sz = 3) (h : cs = [a, b, c]) (hn : n = 1) : (AV.slG sz cs).rowlen = some n := by subst hs h hn; simp [AV.rowlen]
/-- What a closure makes of lines, n of them from one on. -/
def eachL (F : Int → List UInt8) (a : Int) : Nat → List (List UInt8)
  | 0 => []
  | n + 1 => eachL F a n ++ [F (a + (n : Nat))]
theorem eachL_length (F : Int → List UInt8) (a : Int) : ∀ n, (eachL F a n).length = n
  | 0 => rfl
  | n + 1 => by simp [eachL, eachL_length F a n]
theorem eachL_map (F : Int → List UInt8) (a : Int) : ∀ n, eachL F a n = (List.range n).map fun i => F (a + (i : Nat))
  | 0 => rfl
  | n + 1 => by rw [eachL, eachL_map F a n, List.range_succ, List.map_append]; rfl
/-- A line without what a range has of it. -/
def holeL (ls : List (List UInt8)) (k fl fc tl tc i : Int) : List UInt8 := (ls.getD i.toNat []).take (colF ls k fl fc i).toNat ++ (ls.getD i.toNat []).drop (colT ls k tl tc i).toNat
set_option maxRecDepth 10000 in
set_option maxHeartbeats 8000000 in
theorem p107 (l0 : List (List UInt8)) (k fl fc tl tc i : Int) (hL : l0.length ≤ 1000000000) (hB : ∀ n : Nat, (l0.getD n []).length ≤ 1000000000000) (h : validL l0 k fl fc tl tc = true) (h1 : fl ≤ i) (h2 : i ≤ tl) :
    Pure Tryd.prog 43 [.int .i64 i, .cptr (.agg [.slS l0]) 0, .cptr (.agg [.int .i64 k, .int .i64 fl, .int .i64 fc, .int .i64 tl, .int .i64 tc]) 0] (.str (holeL l0 k fl fc tl tc i)) := by
  obtain ⟨hv1, hv2⟩ := validL_spec h
  have hb := hB i.toNat
  obtain ⟨c1, c2, c3⟩ := cols_ok h h1 h2
  have c3 : colT l0 k tl tc i ≤ ((l0.getD i.toNat []).length : Int) := c3
  have k56 := p56 l0 k fl fc tl tc i (by omega) (by omega) hB (by omega)
  refine Pure.ofT tab_ok Tryd.func43 rfl rfl [.tmp 4] rfl (by decide) rfl ⟨27, 5, (.node (.node (.node (.node (.node (.leaf (.int .i64 i)) (J 0)) (J 1)) (J 2)) (.node (.node (.node (.leaf (.cptr (.agg [.int .i64 k, .int .i64 fl, .int .i64 fc, .int .i64 tl, .int .i64 tc]) 0)) (J 0)) (J 1)) (J 2))) (.node (.node (.node (.node (.leaf (.cptr (.agg [.slS l0]) 0)) (J 0)) (J 1)) (J 2)) (J 3))), (OO 5)⟩ (by kernel_rfl) (by kernel_rfl) ?_
  repeat' (first
    | refine allProp_T ?_
    | exact trivial
    | (refine URun.id ?_; first
        | refine URun.nil ?_
        | refine URun.many tabs rfl rfl (by kernel_rfl) ?_ ?_
        | (refine URun.toCall 44 rfl ?_; first
          | refine URun.call tabs rfl rfl rfl rfl k56 rfl rfl ?_ rfl ?_)
        | refine URun.same tabs rfl rfl rfl ?_
        | refine URun.same2 tabs rfl rfl rfl ?_
        | refine URun.split tabs rfl rfl rfl rfl (fun h => ?_) (fun h => ?_))
    | (refine TRun.id ?_; first
        | refine TRun.nil ?_
        | refine TRun.many rfl rfl (by kernel_rfl) ?_ ?_
        | (refine TRun.toCall 44 rfl ?_; first
          | refine TRun.call rfl rfl rfl rfl k56 rfl rfl ?_ rfl ?_)
        | refine TRun.same rfl rfl rfl ?_
        | refine TRun.same2 rfl rfl rfl ?_
        | refine TRun.split rfl rfl rfl rfl (fun h => ?_) (fun h => ?_))
    | (refine HoldsT.id ?_; first
        | refine HoldsT.seq ?_
        | refine HoldsT.regionU ?_
        | refine HoldsT.drawn tabs ?_
        | refine HoldsT.yes rfl ?_
        | refine HoldsT.no rfl ?_
        | refine HoldsT.cond rfl (fun h => ?_) (fun h => ?_)
        | refine HoldsT.block ?_
        | refine HoldsT.ret ?_
        | refine HoldsT.skip ?_
        | refine HoldsT.exit ?_)
    | (refine okTr_intro ?_; kernel_rfl)
    | exact absurd rfl h
    | refine allProp_C ?_ ?_
    | refine And.intro ?_ ?_
    | omega
    | (show _ < List.length _; omega)
    | exact rowlen_intro rfl
    | exact lenEq_intro rfl
    | exact Nat.le_of_ble_eq_true rfl
    | (simp only [AV.rowlenD, AV.rowlen, AV.ncells, mulSz, toN, Option.map_some, Option.map_none, cutL, List.length_take, List.length_drop, List.length_append, List.length_cons, List.length_nil, List.length_set, Option.some.injEq, Int.reduceToNat] <;> omega))
  all_goals exact FinC.te (y := .str _) rfl rfl trivial rfl
def each107_sh (l0 : List (List UInt8)) (k fl fc tl tc : Int) (ls : List (List UInt8)) (a b i : Int) (out : List (List UInt8)) : TS := ⟨31, 5, (.node (.node (.node (.node (.node (.leaf (.slS ls)) (J 0)) (.node (.leaf (.ptr 8 0)) (J 0))) (J 2)) (.node (.node (.node (.leaf (.int .i64 b)) (J 0)) (.node (.leaf (.int .i64 i)) (J 0))) (J 2))) (.node (.node (.node (.node (.leaf (.int .i64 a)) (J 0)) (.node (.leaf (.own 22 out.length)) (J 0))) (J 2)) (.node (.node (.node (.leaf (.fn 43 [.cptr (.agg [.slS l0]) 0, .cptr (.agg [.int .i64 k, .int .i64 fl, .int .i64 fc, .int .i64 tl, .int .i64 tc]) 0])) (J 0)) (J 1)) (J 2)))), (.node (.node (.node (.node (OO 1) (.node (.leaf (some ⟨true, false, .agg [.int .i64 0, .nilsl, .nilsl], 31⟩)) (OO 0))) (OO 2)) (.node (OO 2) (.node (.node (OO 0) (.leaf (some ⟨true, true, .slS out, 9⟩))) (OO 1)))) (OO 4))⟩
set_option maxRecDepth 10000 in
set_option maxHeartbeats 8000000 in
theorem each107 (l0 : List (List UInt8)) (k fl fc tl tc : Int) (F : Int → List UInt8) (ls : List (List UInt8)) (a b : Int) (hL : ls.length ≤ 1000000000) (h0 : 0 ≤ a) (h1 : a ≤ b) (h2 : b < ls.length)
    (hF : ∀ i, a ≤ i → i ≤ b → Pure Tryd.prog 43 [.int .i64 i, .cptr (.agg [.slS l0]) 0, .cptr (.agg [.int .i64 k, .int .i64 fl, .int .i64 fc, .int .i64 tl, .int .i64 tc]) 0] (.str (F i))) :
    Pure Tryd.prog 42 [.slS ls, .int .i64 a, .int .i64 b, .fn 43 [.cptr (.agg [.slS l0]) 0, .cptr (.agg [.int .i64 k, .int .i64 fl, .int .i64 fc, .int .i64 tl, .int .i64 tc]) 0]] (.agg [.int .i64 a, .slS (midL ls a (b - a + 1)), .slS (eachL F a (b - a + 1).toNat)]) := by
  refine Pure.ofT tab_ok Tryd.func42 rfl rfl [.cell 8 31] rfl (by decide) rfl ⟨31, 5, (.node (.node (.node (.node (.node (.leaf (.slS ls)) (J 0)) (J 1)) (J 2)) (.node (.node (.node (.leaf (.int .i64 b)) (J 0)) (J 1)) (J 2))) (.node (.node (.node (.node (.leaf (.int .i64 a)) (J 0)) (J 1)) (J 2)) (.node (.node (.node (.leaf (.fn 43 [.cptr (.agg [.slS l0]) 0, .cptr (.agg [.int .i64 k, .int .i64 fl, .int .i64 fc, .int .i64 tl, .int .i64 tc]) 0])) (J 0)) (J 1)) (J 2)))), (OO 5)⟩ (by kernel_rfl) (by kernel_rfl) ?_
  repeat' (first
    | refine allProp_T ?_
    | exact trivial
    | (refine URun.id ?_; first
        | refine URun.nil ?_
        | refine URun.many tabs rfl rfl (by kernel_rfl) ?_ ?_
        | refine URun.same tabs rfl rfl rfl ?_
        | refine URun.same2 tabs rfl rfl rfl ?_
        | refine URun.split tabs rfl rfl rfl rfl (fun h => ?_) (fun h => ?_))
    | (refine TRun.id ?_; first
        | refine TRun.nil ?_
        | refine TRun.many rfl rfl (by kernel_rfl) ?_ ?_
        | refine TRun.same rfl rfl rfl ?_
        | refine TRun.same2 rfl rfl rfl ?_
        | refine TRun.split rfl rfl rfl rfl (fun h => ?_) (fun h => ?_))
    | (refine HoldsT.id ?_; first
        | refine HoldsT.seq ?_
        | refine HoldsT.regionU ?_
        | refine HoldsT.drawn tabs ?_
        | refine HoldsT.yes rfl ?_
        | refine HoldsT.no rfl ?_
        | refine HoldsT.cond rfl (fun h => ?_) (fun h => ?_)
        | refine HoldsT.block ?_
        | refine HoldsT.ret ?_
        | refine HoldsT.skip ?_
        | refine HoldsT.exit ?_)
    | (refine okTr_intro ?_; kernel_rfl)
    | exact absurd rfl h
    | refine allProp_C ?_ ?_
    | refine And.intro ?_ ?_
    | omega
    | (show _ < List.length _; omega)
    | exact rowlen_intro rfl
    | exact lenEq_intro rfl
    | exact Nat.le_of_ble_eq_true rfl
    | (simp only [AV.rowlenD, AV.rowlen, AV.ncells, mulSz, toN, Option.map_some, Option.map_none, cutL, List.length_take, List.length_drop, List.length_append, List.length_cons, List.length_nil, List.length_set, Option.some.injEq, Int.reduceToNat] <;> omega))
  refine HoldsT.loop (fun x : Int × List (List UInt8) => each107_sh l0 k fl fc tl tc ls a b x.1 x.2) (fun x => (b + 1 - x.1).toNat) (fun x => a ≤ x.1 ∧ x.1 ≤ b + 1 ∧ x.2 = eachL F a (x.1 - a).toNat) (a, []) ?_ ?_ (fun _ => by kernel_rfl) ?_
  · refine (WeakT.canon 9 22 9 (.slS []) rfl rfl rfl (by kernel_rfl) rfl).trans ?_
    refine WeakT.of ?_ ?_ (by kernel_rfl)
    · repeat' (first | exact TTle.junk _ _ | exact TTle.same _ | refine TTle.node ?_ ?_ | refine TTle.leaf ?_ | exact AVle.junk _ | exact AVle.rfl' rfl | exact AVle.nilS | exact AVle.nilB)
    · repeat' (first | exact OOle.none _ _ | exact OOle.same _ | refine OOle.node ?_ ?_ | exact OOle.leaf _ | exact OOle.gone _)
  · exact ⟨by simp, by simp only; omega, by simp [eachL]⟩
  · intro x hx
    obtain ⟨i, out⟩ := x
    obtain ⟨h3, h4, h5⟩ := hx
    simp only at h3 h4 h5
    have hlen : out.length = (i - a).toNat := by rw [h5]; exact eachL_length _ _ _
    have k80 := p80 ls out a (b - a + 1) (by omega) h0 (by omega) (by omega)
    show HoldsT Tryd.prog _ (each107_sh l0 k fl fc tl tc ls a b i out) _
    repeat' (first
      | refine allProp_T ?_
      | exact trivial
      | (refine URun.id ?_; first
          | refine URun.nil ?_
          | refine URun.many tabs rfl rfl (by kernel_rfl) ?_ ?_
          | (refine URun.toCall 43 rfl ?_; first
            | refine URun.call tabs rfl rfl rfl rfl (hF i (by omega) (by omega)) rfl rfl ?_ rfl ?_)
          | (refine URun.toCall 33 rfl ?_; first
            | refine URun.call tabs rfl rfl rfl rfl k80 rfl rfl ?_ rfl ?_)
          | refine URun.same tabs rfl rfl rfl ?_
          | refine URun.same2 tabs rfl rfl rfl ?_
          | refine URun.split tabs rfl rfl rfl rfl (fun h => ?_) (fun h => ?_))
      | (refine TRun.id ?_; first
          | refine TRun.nil ?_
          | refine TRun.many rfl rfl (by kernel_rfl) ?_ ?_
          | (refine TRun.toCall 43 rfl ?_; first
            | refine TRun.call rfl rfl rfl rfl (hF i (by omega) (by omega)) rfl rfl ?_ rfl ?_)
          | (refine TRun.toCall 33 rfl ?_; first
            | refine TRun.call rfl rfl rfl rfl k80 rfl rfl ?_ rfl ?_)
          | refine TRun.same rfl rfl rfl ?_
          | refine TRun.same2 rfl rfl rfl ?_
          | refine TRun.split rfl rfl rfl rfl (fun h => ?_) (fun h => ?_))
      | (refine HoldsT.id ?_; first
          | refine HoldsT.seq ?_
          | refine HoldsT.regionU ?_
          | refine HoldsT.drawn tabs ?_
          | refine HoldsT.yes rfl ?_
          | refine HoldsT.no rfl ?_
          | refine HoldsT.cond rfl (fun h => ?_) (fun h => ?_)
          | refine HoldsT.block ?_
          | refine HoldsT.ret ?_
          | refine HoldsT.skip ?_
          | refine HoldsT.exit ?_)
      | (refine okTr_intro ?_; kernel_rfl)
      | exact absurd rfl h
      | refine allProp_C ?_ ?_
      | refine And.intro ?_ ?_
      | omega
      | (show _ < List.length _; omega)
      | exact rowlen_intro rfl
      | exact lenEq_intro rfl
      | exact Nat.le_of_ble_eq_true rfl
      | (simp only [AV.rowlenD, AV.rowlen, AV.ncells, mulSz, toN, Option.map_some, Option.map_none, cutL, List.length_take, List.length_drop, List.length_append, List.length_cons, List.length_nil, List.length_set, Option.some.injEq, Int.reduceToNat] <;> omega))
    · refine ⟨(i + 1, out ++ [F i]), ⟨by simp only at *; omega, by simp only at *; omega, by simp only at *; omega, ?_⟩, ?_⟩
      · simp only
        rw [show (i + 1 - a).toNat = (i - a).toNat + 1 by omega, eachL, ← h5, show a + ((i - a).toNat : Int) = i by omega]
      · refine WeakT.of ?_ ?_ (by kernel_rfl)
        · repeat' (first | exact TTle.junk _ _ | exact TTle.same _ | refine TTle.node ?_ ?_ | refine TTle.leaf ?_ | exact AVle.junk _ | exact AVle.rfl' rfl | exact AVle.nilS | exact AVle.nilB | exact AVle.rfl' (congrArg (AV.own 22) (tail_row _ _)))
        · repeat' (first | exact OOle.none _ _ | exact OOle.same _ | refine OOle.node ?_ ?_ | exact OOle.leaf _ | exact OOle.gone _)
    · refine FinC.te (y := .agg [.int .i64 _, .slS _, .slS _]) rfl rfl ⟨trivial, trivial, trivial, trivial⟩ (congrArg (fun z => AV.agg [.int .i64 a, .slS (midL ls a (b - a + 1)), .slS z]) ?_)
      rw [h5, show i = b + 1 by omega, show b + 1 - a = b - a + 1 by omega]
structure ChR where
  ok : Bool
  at' : Int
  old : List (List UInt8)
  new : List (List UInt8)
def ChR.av (r : ChR) : AV := .tup [.agg [.int .i64 r.at', .slS r.old, .slS r.new], .bool r.ok]
def chNo : ChR := ⟨false, 0, [], []⟩
theorem noLeC : AVle (.tup [.agg [.int .i64 0, .nilsl, .nilsl], .bool false]) chNo.av :=
  .tup (.cons (.agg (.cons (.refl _) (.cons .nilS (.cons .nilS .nil)))) (.cons (.refl _) .nil))
/-- A range is cut out. -/
def cutR (ls : List (List UInt8)) (k fl fc tl tc : Int) : ChR :=
  if validL ls k fl fc tl tc = true then
    if k = 0 then ⟨true, fl, midL ls fl (tl - fl + 1), [(ls.getD fl.toNat []).take fc.toNat ++ (ls.getD tl.toNat []).drop tc.toNat]⟩
    else if k = 2 then ⟨true, fl, midL ls fl (tl - fl + 1), eachL (holeL ls k fl fc tl tc) fl (tl - fl + 1).toNat⟩
    else if tl - fl + 1 = ls.length then ⟨true, fl, midL ls fl (tl - fl + 1), [[]]⟩
    else ⟨true, fl, midL ls fl (tl - fl + 1), []⟩
  else chNo
set_option maxRecDepth 10000 in
set_option maxHeartbeats 8000000 in
theorem p89 (ls : List (List UInt8)) (k fl fc tl tc : Int) (hL : ls.length ≤ 1000000000) (hB : ∀ n : Nat, (ls.getD n []).length ≤ 1000000000000) :
    Pure Tryd.prog 24 [.slS ls, .agg [.int .i64 k, .int .i64 fl, .int .i64 fc, .int .i64 tl, .int .i64 tc]] (cutR ls k fl fc tl tc).av := by
  have k55 := p55 ls k fl fc tl tc
  cases hv : validL ls k fl fc tl tc with
  | false =>
    rw [hv] at k55
    have e : cutR ls k fl fc tl tc = chNo := by unfold cutR; rw [hv]; simp
    rw [e]
    refine Pure.ofT tab_ok Tryd.func24 rfl rfl [.cell 4 31, .tmp 5] rfl (by decide) rfl ⟨77, 7, (.node (.node (.node (.node (.node (.node (.node (.leaf (.slS ls)) (J 0)) (J 1)) (J 2)) (J 3)) (J 4)) (J 5)) (.node (.node (.node (.node (.node (.node (.leaf (.agg [.int .i64 k, .int .i64 fl, .int .i64 fc, .int .i64 tl, .int .i64 tc])) (J 0)) (J 1)) (J 2)) (J 3)) (J 4)) (J 5))), (OO 7)⟩ (by kernel_rfl) (by kernel_rfl) ?_
    repeat' (first
      | refine allProp_T ?_
      | exact trivial
      | (refine URun.id ?_; first
          | refine URun.nil ?_
          | refine URun.many tabs rfl rfl (by kernel_rfl) ?_ ?_
          | (refine URun.toCall 41 rfl ?_; first
            | refine URun.call tabs rfl rfl rfl rfl k55 rfl rfl ?_ rfl ?_)
          | refine URun.same tabs rfl rfl rfl ?_
          | refine URun.same2 tabs rfl rfl rfl ?_
          | refine URun.split tabs rfl rfl rfl rfl (fun h => ?_) (fun h => ?_))
      | (refine TRun.id ?_; first
          | refine TRun.nil ?_
          | refine TRun.many rfl rfl (by kernel_rfl) ?_ ?_
          | (refine TRun.toCall 41 rfl ?_; first
            | refine TRun.call rfl rfl rfl rfl k55 rfl rfl ?_ rfl ?_)
          | refine TRun.same rfl rfl rfl ?_
          | refine TRun.same2 rfl rfl rfl ?_
          | refine TRun.split rfl rfl rfl rfl (fun h => ?_) (fun h => ?_))
      | (refine HoldsT.id ?_; first
          | refine HoldsT.seq ?_
          | refine HoldsT.regionU ?_
          | refine HoldsT.drawn tabs ?_
          | refine HoldsT.yes rfl ?_
          | refine HoldsT.no rfl ?_
          | refine HoldsT.cond rfl (fun h => ?_) (fun h => ?_)
          | refine HoldsT.block ?_
          | refine HoldsT.ret ?_
          | refine HoldsT.skip ?_
          | refine HoldsT.exit ?_)
      | (refine okTr_intro ?_; kernel_rfl)
      | exact absurd rfl h
      | refine allProp_C ?_ ?_
      | refine And.intro ?_ ?_
      | omega
      | (show _ < List.length _; omega)
      | exact rowlen_intro rfl
      | exact lenEq_intro rfl
      | exact Nat.le_of_ble_eq_true rfl
      | (simp only [AV.rowlenD, AV.rowlen, AV.ncells, mulSz, toN, Option.map_some, Option.map_none, cutL, List.length_take, List.length_drop, List.length_append, List.length_cons, List.length_nil, List.length_set, Option.some.injEq, Int.reduceToNat] <;> omega))
    all_goals exact FinC.t (y := .tup [.agg [.int .i64 _, .nilsl, .nilsl], .bool _]) rfl rfl ⟨⟨trivial, trivial, trivial, trivial⟩, trivial, trivial⟩ noLeC
  | true =>
    rw [hv] at k55
    obtain ⟨hv1, hv2⟩ := validL_spec hv
    have hbf := hB fl.toNat
    have hbt := hB tl.toNat
    have hv3 : k = 0 → (0 ≤ fc ∧ fc ≤ ((ls.getD fl.toNat []).length : Int)) ∧ (0 ≤ tc ∧ tc ≤ ((ls.getD tl.toNat []).length : Int)) := by
      intro e
      rcases hv2 with ⟨_, q1, q2, _⟩ | q | q
      · exact ⟨q1, q2⟩
      · omega
      · omega
    have k80 := fun now => p80 ls now fl (tl - fl + 1) (by omega) (by omega) (by omega) (by omega)
    have k80n : Pure Tryd.prog 33 [.slS ls, .int .i64 fl, .int .i64 (tl - fl + 1), .nilsl] (.agg [.int .i64 fl, .slS (midL ls fl (tl - fl + 1)), .slS []]) := (k80 []).le (.cons (.refl _) (.cons (.refl _) (.cons (.refl _) (.cons .nilS .nil))))
    have k106 := each107 ls k fl fc tl tc (holeL ls k fl fc tl tc) ls fl tl (by omega) (by omega) (by omega) (by omega) (fun i h1 h2 => p107 ls k fl fc tl tc i (by omega) hB hv h1 h2)
    refine Pure.ofT tab_ok Tryd.func24 rfl rfl [.cell 4 31, .tmp 5] rfl (by decide) rfl ⟨77, 7, (.node (.node (.node (.node (.node (.node (.node (.leaf (.slS ls)) (J 0)) (J 1)) (J 2)) (J 3)) (J 4)) (J 5)) (.node (.node (.node (.node (.node (.node (.leaf (.agg [.int .i64 k, .int .i64 fl, .int .i64 fc, .int .i64 tl, .int .i64 tc])) (J 0)) (J 1)) (J 2)) (J 3)) (J 4)) (J 5))), (OO 7)⟩ (by kernel_rfl) (by kernel_rfl) ?_
    repeat' (first
      | refine allProp_T ?_
      | exact trivial
      | (refine URun.id ?_; first
          | refine URun.nil ?_
          | refine URun.many tabs rfl rfl (by kernel_rfl) ?_ ?_
          | (refine URun.toCall 41 rfl ?_; first
            | refine URun.call tabs rfl rfl rfl rfl k55 rfl rfl ?_ rfl ?_)
          | (refine URun.toCall 33 rfl ?_; first
            | refine URun.call tabs rfl rfl rfl rfl k80n rfl rfl ?_ rfl ?_
            | refine URun.call tabs rfl rfl rfl rfl (k80 _) rfl rfl ?_ rfl ?_)
          | (refine URun.toCall 42 rfl ?_; first
            | refine URun.call tabs rfl rfl rfl rfl k106 rfl rfl ?_ rfl ?_)
          | refine URun.same tabs rfl rfl rfl ?_
          | refine URun.same2 tabs rfl rfl rfl ?_
          | refine URun.split tabs rfl rfl rfl rfl (fun h => ?_) (fun h => ?_))
      | (refine TRun.id ?_; first
          | refine TRun.nil ?_
          | refine TRun.many rfl rfl (by kernel_rfl) ?_ ?_
          | (refine TRun.toCall 41 rfl ?_; first
            | refine TRun.call rfl rfl rfl rfl k55 rfl rfl ?_ rfl ?_)
          | (refine TRun.toCall 33 rfl ?_; first
            | refine TRun.call rfl rfl rfl rfl k80n rfl rfl ?_ rfl ?_
            | refine TRun.call rfl rfl rfl rfl (k80 _) rfl rfl ?_ rfl ?_)
          | (refine TRun.toCall 42 rfl ?_; first
            | refine TRun.call rfl rfl rfl rfl k106 rfl rfl ?_ rfl ?_)
          | refine TRun.same rfl rfl rfl ?_
          | refine TRun.same2 rfl rfl rfl ?_
          | refine TRun.split rfl rfl rfl rfl (fun h => ?_) (fun h => ?_))
      | (refine HoldsT.id ?_; first
          | refine HoldsT.seq ?_
          | refine HoldsT.regionU ?_
          | refine HoldsT.drawn tabs ?_
          | refine HoldsT.yes rfl ?_
          | refine HoldsT.no rfl ?_
          | refine HoldsT.cond rfl (fun h => ?_) (fun h => ?_)
          | refine HoldsT.block ?_
          | refine HoldsT.ret ?_
          | refine HoldsT.skip ?_
          | refine HoldsT.exit ?_)
      | (refine okTr_intro ?_; kernel_rfl)
      | exact absurd rfl h
      | (show isBox _ _ = true; exact rfl)
      | refine allProp_C ?_ ?_
      | refine And.intro ?_ ?_
      | omega
      | (show _ < List.length _; omega)
      | exact rowlen_intro rfl
      | exact lenEq_intro rfl
      | exact Nat.le_of_ble_eq_true rfl
      | (simp only [AV.rowlenD, AV.rowlen, AV.ncells, mulSz, toN, Option.map_some, Option.map_none, cutL, List.length_take, List.length_drop, List.length_append, List.length_cons, List.length_nil, List.length_set, Option.some.injEq, Int.reduceToNat] <;> omega))
    all_goals refine FinC.t (y := .tup [.agg [.int .i64 _, .slS _, .slS _], .bool _]) rfl rfl ⟨⟨trivial, trivial, trivial, trivial⟩, trivial, trivial⟩ (AVle.rfl' ?_)
    all_goals (unfold cutR; rw [hv]; simp only [if_true]; (repeat' split) <;> first | rfl | (exfalso; omega))
/-- A byte's class, where only blanks tell. -/
def ofK (k : Int) : Int := if k = 32 ∨ k = 9 then 0 else 1
def blankB (b : UInt8) : Bool := decide (ofK (b.toNat : Int) = 0)
/-- How many blanks a line begins with. -/
def leadL (s : List UInt8) : Nat := (s.takeWhile blankB).length
def firstL (s : List UInt8) : Int := if (leadL s : Int) < s.length then leadL s else max ((s.length : Int) - 1) 0
theorem allb_take {s : List UInt8} {i : Nat} (h : (s.take i).all blankB = true) (hi : i < s.length) (hb : ofK ((s.getD i 0).toNat : Int) = 0) : (s.take (i + 1)).all blankB = true := by
  rw [List.take_add_one, List.all_append, h, List.getElem?_eq_getElem hi]
  simp only [Option.toList, List.all_cons, List.all_nil, Bool.and_true, Bool.true_and, blankB, decide_eq_true_eq]
  simpa [hi] using hb
theorem leadL_all {s : List UInt8} (h : s.all blankB = true) : leadL s = s.length := by
  unfold leadL
  congr 1
  have := List.takeWhile_append_of_pos (p := blankB) (l₁ := s) (l₂ := []) (fun a ha => List.all_eq_true.1 h a ha)
  simpa using this
theorem leadL_at {s : List UInt8} {i : Nat} (h : (s.take i).all blankB = true) (hi : i < s.length) (hb : ¬ ofK ((s.getD i 0).toNat : Int) = 0) : leadL s = i := by
  unfold leadL
  have e : s = s.take i ++ s[i] :: s.drop (i + 1) := by rw [← List.drop_eq_getElem_cons hi, List.take_append_drop]
  have hb' : ¬ blankB s[i] = true := by
    unfold blankB
    simpa [hi] using hb
  rw [e, List.takeWhile_append_of_pos (fun a ha => List.all_eq_true.1 h a ha), List.takeWhile_cons_of_neg hb', List.append_nil, List.length_take]
  omega
set_option maxRecDepth 10000 in
set_option maxHeartbeats 8000000 in
theorem p116 (k : Int) : Pure Tryd.prog 57 [.int .u8 k, .bool true] (.int .i64 (ofK k)) := by
  refine Pure.ofT tab2_ok Tryd.func57 rfl rfl [.tmp 4] rfl (by decide) rfl ⟨37, 6, (.node (.node (.node (.node (.node (.node (.leaf (.int .u8 k)) (J 0)) (J 1)) (J 2)) (J 3)) (J 4)) (.node (.node (.node (.node (.node (.leaf (.bool true)) (J 0)) (J 1)) (J 2)) (J 3)) (J 4))), (OO 6)⟩ (by kernel_rfl) (by kernel_rfl) ?_
  repeat' (first
    | refine allProp_T ?_
    | exact trivial
    | (refine URun.id ?_; first
        | refine URun.nil ?_
        | refine URun.many tabs2 rfl rfl (by kernel_rfl) ?_ ?_
        | refine URun.same tabs2 rfl rfl rfl ?_
        | refine URun.same2 tabs2 rfl rfl rfl ?_
        | refine URun.split tabs2 rfl rfl rfl rfl (fun h => ?_) (fun h => ?_))
    | (refine TRun.id ?_; first
        | refine TRun.nil ?_
        | refine TRun.many rfl rfl (by kernel_rfl) ?_ ?_
        | refine TRun.same rfl rfl rfl ?_
        | refine TRun.same2 rfl rfl rfl ?_
        | refine TRun.split rfl rfl rfl rfl (fun h => ?_) (fun h => ?_))
    | (refine HoldsT.id ?_; first
        | refine HoldsT.seq ?_
        | refine HoldsT.regionU ?_
        | refine HoldsT.drawn tabs2 ?_
        | refine HoldsT.yes rfl ?_
        | refine HoldsT.no rfl ?_
        | refine HoldsT.cond rfl (fun h => ?_) (fun h => ?_)
        | refine HoldsT.block ?_
        | refine HoldsT.ret ?_
        | refine HoldsT.skip ?_
        | refine HoldsT.exit ?_)
    | (refine okTr_intro ?_; kernel_rfl)
    | exact absurd rfl h
    | refine allProp_C ?_ ?_
    | refine And.intro ?_ ?_
    | omega
    | (show _ < List.length _; omega)
    | exact rowlen_intro rfl
    | exact lenEq_intro rfl
    | exact Nat.le_of_ble_eq_true rfl
    | (simp only [AV.rowlenD, AV.rowlen, AV.ncells, mulSz, toN, Option.map_some, Option.map_none, cutL, List.length_take, List.length_drop, List.length_append, List.length_cons, List.length_nil, List.length_set, Option.some.injEq, Int.reduceToNat] <;> omega))
  all_goals refine FinC.te (y := .int .i64 _) rfl rfl trivial (congrArg (AV.int .i64) ?_)
  all_goals (unfold ofK; first | exact (if_pos (by omega)).symm | exact (if_neg (by omega)).symm)
set_option maxRecDepth 10000 in
set_option maxHeartbeats 8000000 in
theorem p73 (k : Int) : Pure Tryd.prog 22 [.int .u8 k, .bool true] (.int .i64 (ofK k)) := by
  refine Pure.ofT tab2_ok Tryd.func22 rfl rfl [.tmp 4] rfl (by decide) rfl ⟨46, 6, (.node (.node (.node (.node (.node (.node (.leaf (.int .u8 k)) (J 0)) (J 1)) (J 2)) (J 3)) (J 4)) (.node (.node (.node (.node (.node (.leaf (.bool true)) (J 0)) (J 1)) (J 2)) (J 3)) (J 4))), (OO 6)⟩ (by kernel_rfl) (by kernel_rfl) ?_
  repeat' (first
    | refine allProp_T ?_
    | exact trivial
    | (refine URun.id ?_; first
        | refine URun.nil ?_
        | refine URun.many tabs2 rfl rfl (by kernel_rfl) ?_ ?_
        | refine URun.same tabs2 rfl rfl rfl ?_
        | refine URun.same2 tabs2 rfl rfl rfl ?_
        | refine URun.split tabs2 rfl rfl rfl rfl (fun h => ?_) (fun h => ?_))
    | (refine TRun.id ?_; first
        | refine TRun.nil ?_
        | refine TRun.many rfl rfl (by kernel_rfl) ?_ ?_
        | refine TRun.same rfl rfl rfl ?_
        | refine TRun.same2 rfl rfl rfl ?_
        | refine TRun.split rfl rfl rfl rfl (fun h => ?_) (fun h => ?_))
    | (refine HoldsT.id ?_; first
        | refine HoldsT.seq ?_
        | refine HoldsT.regionU ?_
        | refine HoldsT.drawn tabs2 ?_
        | refine HoldsT.yes rfl ?_
        | refine HoldsT.no rfl ?_
        | refine HoldsT.cond rfl (fun h => ?_) (fun h => ?_)
        | refine HoldsT.block ?_
        | refine HoldsT.ret ?_
        | refine HoldsT.skip ?_
        | refine HoldsT.exit ?_)
    | (refine okTr_intro ?_; kernel_rfl)
    | exact absurd rfl h
    | refine allProp_C ?_ ?_
    | refine And.intro ?_ ?_
    | omega
    | (show _ < List.length _; omega)
    | exact rowlen_intro rfl
    | exact lenEq_intro rfl
    | exact Nat.le_of_ble_eq_true rfl
    | (simp only [AV.rowlenD, AV.rowlen, AV.ncells, mulSz, toN, Option.map_some, Option.map_none, cutL, List.length_take, List.length_drop, List.length_append, List.length_cons, List.length_nil, List.length_set, Option.some.injEq, Int.reduceToNat] <;> omega))
  all_goals refine FinC.te (y := .int .i64 _) rfl rfl trivial (congrArg (AV.int .i64) ?_)
  all_goals (unfold ofK; first | exact (if_pos (by omega)).symm | exact (if_neg (by omega)).symm)
structure RgR where
  k : Int
  fl : Int
  fc : Int
  tl : Int
  tc : Int
def RgR.av (r : RgR) : AV := .agg [.int .i64 r.k, .int .i64 r.fl, .int .i64 r.fc, .int .i64 r.tl, .int .i64 r.tc]
def rgF (ls : List (List UInt8)) (a b : Int) : Int := if a.tmod ls.length > b.tmod ls.length then b.tmod ls.length else a.tmod ls.length
def rgT (ls : List (List UInt8)) (a b : Int) : Int := if a.tmod ls.length > b.tmod ls.length then a.tmod ls.length else b.tmod ls.length
def rgP (ls : List (List UInt8)) (l c : Int) : Int := c.tmod (((ls.getD l.toNat []).length : Int) + 1)
def rgS (k f t p q : Int) : RgR := if (f = t ∨ k = 2) ∧ p > q then ⟨k, f, q, t, p⟩ else ⟨k, f, p, t, q⟩
/-- A range of numbers. -/
def rgL (ls : List (List UInt8)) (k a b c d : Int) : RgR := rgS (k.tmod 3) (rgF ls a b) (rgT ls a b) (rgP ls (rgF ls a b) c) (rgP ls (rgT ls a b) d)
set_option maxRecDepth 10000 in
set_option maxHeartbeats 8000000 in
theorem p46 (ls : List (List UInt8)) (k a b c d : Int) (hl : ls.length ≤ 1000000000) (h0 : 0 < (ls.length : Int)) (hk : 0 ≤ k ∧ k ≤ 255) (ha : 0 ≤ a ∧ a ≤ 65535) (hb : 0 ≤ b ∧ b ≤ 65535) (hc : 0 ≤ c ∧ c ≤ 65535) (hd : 0 ≤ d ∧ d ≤ 65535) (hB : ∀ n : Nat, (ls.getD n []).length ≤ 1000000000000) : Pure Tryd.prog 23 [.slS ls, .int .u8 k, .int .u16 a, .int .u16 b, .int .u16 c, .int .u16 d] (rgL ls k a b c d).av := by
  have hk3 := tmod_in hk.1 (show (0 : Int) < 3 by omega)
  have h1 := tmod_in ha.1 h0
  have h2 := tmod_in hb.1 h0
  have hb1 := hB (a.tmod ls.length).toNat
  have hb2 := hB (b.tmod ls.length).toNat
  by_cases hab : a.tmod ls.length > b.tmod ls.length
  · have e1 : rgF ls a b = b.tmod ls.length := if_pos hab
    have e2 : rgT ls a b = a.tmod ls.length := if_pos hab
    unfold rgL
    rw [e1, e2]
    refine Pure.ofT tab2_ok Tryd.func23 rfl rfl [.cell 12 49] rfl (by decide) rfl ⟨102, 7, (.node (.node (.node (.node (.node (.node (.node (.leaf (.slS ls)) (J 0)) (J 1)) (J 2)) (J 3)) (.node (.node (.node (.node (.leaf (.int .u16 c)) (J 0)) (J 1)) (J 2)) (J 3))) (.node (.node (.node (.node (.node (.leaf (.int .u16 a)) (J 0)) (J 1)) (J 2)) (J 3)) (J 4))) (.node (.node (.node (.node (.node (.node (.leaf (.int .u8 k)) (J 0)) (J 1)) (J 2)) (J 3)) (.node (.node (.node (.node (.leaf (.int .u16 d)) (J 0)) (J 1)) (J 2)) (J 3))) (.node (.node (.node (.node (.node (.leaf (.int .u16 b)) (J 0)) (J 1)) (J 2)) (J 3)) (J 4)))), (OO 7)⟩ (by kernel_rfl) (by kernel_rfl) ?_
    repeat' (first
      | refine allProp_T ?_
      | exact trivial
      | (refine URun.id ?_; first
          | refine URun.nil ?_
          | refine URun.many tabs2 rfl rfl (by kernel_rfl) ?_ ?_
          | refine URun.same tabs2 rfl rfl rfl ?_
          | refine URun.same2 tabs2 rfl rfl rfl ?_
          | refine URun.yes tabs2 rfl rfl (by omega) rfl ?_
          | refine URun.no tabs2 rfl rfl (by omega) rfl ?_
          | refine URun.split tabs2 rfl rfl rfl rfl (fun h => ?_) (fun h => ?_))
      | (refine TRun.id ?_; first
          | refine TRun.nil ?_
          | refine TRun.many rfl rfl (by kernel_rfl) ?_ ?_
          | refine TRun.same rfl rfl rfl ?_
          | refine TRun.same2 rfl rfl rfl ?_
          | refine TRun.yes rfl rfl (by omega) rfl ?_
          | refine TRun.no rfl rfl (by omega) rfl ?_
          | refine TRun.split rfl rfl rfl rfl (fun h => ?_) (fun h => ?_))
      | (refine HoldsT.id ?_; first
          | refine HoldsT.seq ?_
          | refine HoldsT.regionU ?_
          | refine HoldsT.drawn tabs2 ?_
          | refine HoldsT.yes rfl ?_
          | refine HoldsT.no rfl ?_
          | refine HoldsT.cond rfl (fun h => ?_) (fun h => ?_)
          | refine HoldsT.block ?_
          | refine HoldsT.ret ?_
          | refine HoldsT.skip ?_
          | refine HoldsT.exit ?_)
      | (refine okTr_intro ?_; kernel_rfl)
      | exact absurd rfl h
      | refine allProp_C ?_ ?_
      | refine And.intro ?_ ?_
      | omega
      | (show _ < List.length _; omega)
      | exact rowlen_intro rfl
      | exact lenEq_intro rfl
      | exact Nat.le_of_ble_eq_true rfl
      | (simp only [AV.rowlenD, AV.rowlen, AV.ncells, mulSz, toN, Option.map_some, Option.map_none, cutL, List.length_take, List.length_drop, List.length_append, List.length_cons, List.length_nil, List.length_set, Option.some.injEq, Int.reduceToNat] <;> omega))
    all_goals refine FinC.t (y := .agg [.int .i64 _, .int .i64 _, .int .i64 _, .int .i64 _, .int .i64 _]) rfl rfl ⟨trivial, trivial, trivial, trivial, trivial, trivial⟩ (AVle.rfl' ?_)
    all_goals (unfold rgS rgP; split <;> first | rfl | (exfalso; omega))
  · have e1 : rgF ls a b = a.tmod ls.length := if_neg hab
    have e2 : rgT ls a b = b.tmod ls.length := if_neg hab
    unfold rgL
    rw [e1, e2]
    refine Pure.ofT tab2_ok Tryd.func23 rfl rfl [.cell 12 49] rfl (by decide) rfl ⟨102, 7, (.node (.node (.node (.node (.node (.node (.node (.leaf (.slS ls)) (J 0)) (J 1)) (J 2)) (J 3)) (.node (.node (.node (.node (.leaf (.int .u16 c)) (J 0)) (J 1)) (J 2)) (J 3))) (.node (.node (.node (.node (.node (.leaf (.int .u16 a)) (J 0)) (J 1)) (J 2)) (J 3)) (J 4))) (.node (.node (.node (.node (.node (.node (.leaf (.int .u8 k)) (J 0)) (J 1)) (J 2)) (J 3)) (.node (.node (.node (.node (.leaf (.int .u16 d)) (J 0)) (J 1)) (J 2)) (J 3))) (.node (.node (.node (.node (.node (.leaf (.int .u16 b)) (J 0)) (J 1)) (J 2)) (J 3)) (J 4)))), (OO 7)⟩ (by kernel_rfl) (by kernel_rfl) ?_
    repeat' (first
      | refine allProp_T ?_
      | exact trivial
      | (refine URun.id ?_; first
          | refine URun.nil ?_
          | refine URun.many tabs2 rfl rfl (by kernel_rfl) ?_ ?_
          | refine URun.same tabs2 rfl rfl rfl ?_
          | refine URun.same2 tabs2 rfl rfl rfl ?_
          | refine URun.yes tabs2 rfl rfl (by omega) rfl ?_
          | refine URun.no tabs2 rfl rfl (by omega) rfl ?_
          | refine URun.split tabs2 rfl rfl rfl rfl (fun h => ?_) (fun h => ?_))
      | (refine TRun.id ?_; first
          | refine TRun.nil ?_
          | refine TRun.many rfl rfl (by kernel_rfl) ?_ ?_
          | refine TRun.same rfl rfl rfl ?_
          | refine TRun.same2 rfl rfl rfl ?_
          | refine TRun.yes rfl rfl (by omega) rfl ?_
          | refine TRun.no rfl rfl (by omega) rfl ?_
          | refine TRun.split rfl rfl rfl rfl (fun h => ?_) (fun h => ?_))
      | (refine HoldsT.id ?_; first
          | refine HoldsT.seq ?_
          | refine HoldsT.regionU ?_
          | refine HoldsT.drawn tabs2 ?_
          | refine HoldsT.yes rfl ?_
          | refine HoldsT.no rfl ?_
          | refine HoldsT.cond rfl (fun h => ?_) (fun h => ?_)
          | refine HoldsT.block ?_
          | refine HoldsT.ret ?_
          | refine HoldsT.skip ?_
          | refine HoldsT.exit ?_)
      | (refine okTr_intro ?_; kernel_rfl)
      | exact absurd rfl h
      | refine allProp_C ?_ ?_
      | refine And.intro ?_ ?_
      | omega
      | (show _ < List.length _; omega)
      | exact rowlen_intro rfl
      | exact lenEq_intro rfl
      | exact Nat.le_of_ble_eq_true rfl
      | (simp only [AV.rowlenD, AV.rowlen, AV.ncells, mulSz, toN, Option.map_some, Option.map_none, cutL, List.length_take, List.length_drop, List.length_append, List.length_cons, List.length_nil, List.length_set, Option.some.injEq, Int.reduceToNat] <;> omega))
    all_goals refine FinC.t (y := .agg [.int .i64 _, .int .i64 _, .int .i64 _, .int .i64 _, .int .i64 _]) rfl rfl ⟨trivial, trivial, trivial, trivial, trivial, trivial⟩ (AVle.rfl' ?_)
    all_goals (unfold rgS rgP; split <;> first | rfl | (exfalso; omega))
theorem rg_valid (ls : List (List UInt8)) (k a b c d : Int) (h0 : 0 < (ls.length : Int)) (hk : 0 ≤ k) (ha : 0 ≤ a) (hb : 0 ≤ b) (hc : 0 ≤ c) (hd : 0 ≤ d) : validL ls (rgL ls k a b c d).k (rgL ls k a b c d).fl (rgL ls k a b c d).fc (rgL ls k a b c d).tl (rgL ls k a b c d).tc = true ∧ (rgL ls k a b c d).k = k.tmod 3 := by
  have h1 := tmod_in ha h0
  have h2 := tmod_in hb h0
  have hk3 := tmod_in hk (show (0 : Int) < 3 by omega)
  have f1 : 0 ≤ rgF ls a b ∧ rgF ls a b ≤ rgT ls a b ∧ rgT ls a b < ls.length := by unfold rgF rgT; split <;> omega
  have p1 : 0 ≤ rgP ls (rgF ls a b) c ∧ rgP ls (rgF ls a b) c < ((ls.getD (rgF ls a b).toNat []).length : Int) + 1 := tmod_in hc (by omega)
  have p2 : 0 ≤ rgP ls (rgT ls a b) d ∧ rgP ls (rgT ls a b) d < ((ls.getD (rgT ls a b).toNat []).length : Int) + 1 := tmod_in hd (by omega)
  unfold rgL
  generalize rgP ls (rgF ls a b) c = p at *
  generalize rgP ls (rgT ls a b) d = q at *
  generalize rgF ls a b = f at *
  generalize rgT ls a b = t at *
  generalize k.tmod 3 = k at *
  have hft : f = t → (ls.getD f.toNat []).length = (ls.getD t.toNat []).length := fun e => by rw [e]
  unfold rgS validL placeL ltP
  split <;> (simp only [Bool.and_eq_true, Bool.or_eq_true, decide_eq_true_eq, Bool.not_eq_true', decide_eq_false_iff_not, and_true]; by_cases e : f = t; (have e2 := hft e; clear hft h1 h2; omega); (clear hft h1 h2; omega))
theorem mid_len {ls : List (List UInt8)} {a n : Int} (h0 : 0 ≤ a) (h1 : 0 ≤ n) (h2 : a + n ≤ ls.length) : ((midL ls a n).length : Int) = n := by
  simp only [midL, cutL, List.length_drop, List.length_take]; omega
theorem mid_getD_le {ls : List (List UInt8)} {a n : Int} {b : Nat} (hB : ∀ n : Nat, (ls.getD n []).length ≤ b) (i : Nat) : ((midL ls a n).getD i []).length ≤ b := getD_cut_le hB _ _ i
theorem each_getD_le {F : Int → List UInt8} {a : Int} {b m : Nat} (hF : ∀ i : Nat, i < m → (F (a + (i : Nat))).length ≤ b) (i : Nat) : ((eachL F a m).getD i []).length ≤ b := by
  rw [eachL_map, List.getD_eq_getElem?_getD, List.getElem?_map]
  by_cases hi : i < m
  · rw [List.getElem?_range hi]; exact hF i hi
  · rw [List.getElem?_eq_none (by simp; omega)]; simp
/-- A range that is cut out: what it is, told in bounds. -/
theorem cut_facts {ls : List (List UInt8)} {k fl fc tl tc : Int} {b : Nat} (hv : validL ls k fl fc tl tc = true) (hB : ∀ n : Nat, (ls.getD n []).length ≤ b) :
    (cutR ls k fl fc tl tc).ok = true ∧ (cutR ls k fl fc tl tc).at' = fl ∧ (cutR ls k fl fc tl tc).old = midL ls fl (tl - fl + 1) ∧ (cutR ls k fl fc tl tc).new.length ≤ ls.length + 1 ∧ (∀ n : Nat, ((cutR ls k fl fc tl tc).new.getD n []).length ≤ 2 * b) ∧
    (ls.length : Int) - (tl - fl + 1) + (cutR ls k fl fc tl tc).new.length ≠ 0 := by
  obtain ⟨hv1, hv2⟩ := validL_spec hv
  have e1 : ∀ (x : List UInt8), x.length ≤ 2 * b → ∀ n : Nat, (([x] : List (List UInt8)).getD n []).length ≤ 2 * b := fun x hx n => by
    match n with
    | 0 => simpa using hx
    | n + 1 => simp
  unfold cutR
  rw [if_pos hv]
  split
  · refine ⟨rfl, rfl, rfl, by simp, e1 _ ?_, by simp; omega⟩
    have h1 := hB fl.toNat
    have h2 := hB tl.toNat
    simp only [List.length_append, List.length_take, List.length_drop]; omega
  · split
    · refine ⟨rfl, rfl, rfl, by simp only [eachL_length]; omega, each_getD_le fun i hi => ?_, by simp only [eachL_length]; omega⟩
      have h1 := hB (fl + (i : Nat)).toNat
      simp only [holeL, List.length_append, List.length_take, List.length_drop]; omega
    · split
      · exact ⟨rfl, rfl, rfl, by simp, e1 _ (by simp), by simp; omega⟩
      · exact ⟨rfl, rfl, rfl, by simp, fun n => by simp, by simp; omega⟩
theorem cut_app {ls : List (List UInt8)} {k fl fc tl tc : Int} (hv : validL ls k fl fc tl tc = true) : appOk ls (cutR ls k fl fc tl tc).at' (cutR ls k fl fc tl tc).old (cutR ls k fl fc tl tc).new = true := by
  obtain ⟨hv1, hv2⟩ := validL_spec hv
  obtain ⟨b, hb⟩ : ∃ b : Nat, ∀ n : Nat, (ls.getD n []).length ≤ b := ⟨sumL ls, fun n => by
    rcases Nat.lt_or_ge n ls.length with h | h
    · have := sumL_take ls n h
      have h2 := sumL_le ls (n + 1)
      omega
    · rw [List.getD_eq_getElem?_getD, List.getElem?_eq_none h]; simp⟩
  obtain ⟨_, h2, h3, _, _, h6⟩ := cut_facts hv hb
  have hm := mid_len (ls := ls) (a := fl) (n := tl - fl + 1) (by omega) (by omega) (by omega)
  rw [h2, h3]
  refine decide_eq_true ⟨by omega, by omega, by omega, ?_, by omega⟩
  rw [hm]
theorem app_len {ls old new : List (List UInt8)} {a : Int} (h : appOk ls a old new = true) : ((appL ls a old new).length : Int) = ls.length - old.length + new.length := by
  have h' := of_decide_eq_true h
  unfold appL
  rw [if_pos h]
  simp only [cutL, List.length_append, List.length_take, List.length_drop]; omega
theorem mid_map {ls : List (List UInt8)} {a n : Int} (h0 : 0 ≤ a) (h1 : 0 ≤ n) (h2 : a + n ≤ ls.length) : midL ls a n = (List.range n.toNat).map fun i => ls.getD (a + (i : Nat)).toNat [] := by
  apply List.ext_getElem?
  intro i
  simp only [midL, cutL, List.getElem?_drop, List.getElem?_map]
  by_cases hi : i < n.toNat
  · rw [List.getElem?_take_of_lt (by omega), List.getElem?_range hi, Option.map_some, List.getD_eq_getElem?_getD, show a.toNat + i = (a + (i : Nat)).toNat by omega, List.getElem?_eq_getElem (by omega)]; rfl
  · rw [List.getElem?_eq_none (by simp; omega), List.getElem?_eq_none (by simp; omega)]; rfl
def spc (n : Int) : List UInt8 := List.replicate n.toNat 32
theorem spc_len {i : Int} : (spc i).length = i.toNat := by simp [spc]
theorem u8_in (b : UInt8) : inK .u8 (b.toNat : Int) := ⟨by omega, by have := b.toNat_lt; omega⟩
/-- A line that is shifted. -/
def shR (s : List UInt8) (n : Int) : List UInt8 := if s = [] then [] else spc (n * 4) ++ s
def shLf (s : List UInt8) (n : Int) : List UInt8 := s.drop (min (leadL s) (n * 4).toNat)
theorem lead_ge {s : List UInt8} {i : Nat} (h : (s.take i).all blankB = true) (hi : i ≤ s.length) : i ≤ leadL s := by
  unfold leadL
  have e : s = s.take i ++ s.drop i := (List.take_append_drop i s).symm
  have h1 : (s.takeWhile blankB).length = i + ((s.drop i).takeWhile blankB).length := by
    conv => lhs; rw [e]
    rw [List.takeWhile_append_of_pos (fun a ha => List.all_eq_true.1 h a ha), List.length_append, List.length_take]
    omega
  omega
theorem lead_le (s : List UInt8) : leadL s ≤ s.length := by
  unfold leadL
  exact (List.takeWhile_sublist _).length_le
theorem lead_of_all {s : List UInt8} {i : Nat} (h : (s.take i).all blankB = true) (hi : s.length ≤ i) : leadL s = s.length := by
  rw [List.take_of_length_le hi] at h
  exact leadL_all h
theorem blank_spc : ∀ n : Nat, (List.replicate n (32 : UInt8)).all blankB = true := fun n => by
  rw [List.all_eq_true]
  intro x hx
  rw [List.eq_of_mem_replicate hx]
  rfl
theorem shift_back {s : List UInt8} {m : Int} (hm : 0 ≤ m) : shLf (shR s m) m = s := by
  unfold shR
  split
  · rename_i h; subst h; simp [shLf]
  · have e : (m * 4).toNat ≤ leadL (spc (m * 4) ++ s) := lead_ge (by
      unfold spc
      rw [List.take_append_of_le_length (by simp), List.take_of_length_le (by simp)]
      exact blank_spc _) (by simp [spc])
    unfold shLf
    rw [Nat.min_eq_right e]
    have : (spc (m * 4)).length = (m * 4).toNat := spc_len
    rw [← this, List.drop_left]
/-- Lines that are put in the place of as many. -/
theorem app_each {ls : List (List UInt8)} {fl tl : Int} {F : Int → List UInt8} (h0 : 0 ≤ fl) (h1 : fl ≤ tl) (h2 : tl < ls.length) :
    appOk ls fl (midL ls fl (tl - fl + 1)) (eachL F fl (tl - fl + 1).toNat) = true ∧ (appL ls fl (midL ls fl (tl - fl + 1)) (eachL F fl (tl - fl + 1).toNat)).length = ls.length ∧
    ∀ i : Nat, (appL ls fl (midL ls fl (tl - fl + 1)) (eachL F fl (tl - fl + 1).toNat)).getD i [] = if fl ≤ (i : Int) ∧ (i : Int) ≤ tl then F i else ls.getD i [] := by
  have hm := mid_len (ls := ls) (a := fl) (n := tl - fl + 1) h0 (by omega) (by omega)
  have hn := eachL_length F fl (tl - fl + 1).toNat
  have ok : appOk ls fl (midL ls fl (tl - fl + 1)) (eachL F fl (tl - fl + 1).toNat) = true := by
    refine decide_eq_true ⟨by omega, by omega, by omega, ?_, by omega⟩
    rw [hm]
  have hl := app_len ok
  refine ⟨ok, by omega, fun i => ?_⟩
  have hl1 : (ls.take fl.toNat).length = fl.toNat := by rw [List.length_take]; omega
  unfold appL
  rw [if_pos ok, hm]
  simp only [cutL, List.getD_eq_getElem?_getD, List.append_assoc]
  rw [List.getElem?_append, hl1]
  by_cases c1 : i < fl.toNat
  · rw [if_pos c1, if_neg (by omega), List.getElem?_take_of_lt c1]
  · rw [if_neg c1, List.getElem?_append, hn]
    by_cases c2 : i - fl.toNat < (tl - fl + 1).toNat
    · rw [if_pos c2, if_pos (by omega), eachL_map, List.getElem?_map, List.getElem?_range c2]
      simp only [Option.map_some, Option.getD_some]
      congr 1; omega
    · rw [if_neg c2, if_neg (by omega), List.getElem?_drop]
      congr 2; omega
def smallK (k : Int) : Bool := decide (97 ≤ k ∧ k ≤ 122)
def capK (k : Int) : Bool := decide (65 ≤ k ∧ k ≤ 90)
def caseK (up down : Bool) (k : Int) : Int := if up = true ∧ smallK k = true then k - 32 else if down = true ∧ capK k = true then k + 32 else k
set_option maxRecDepth 10000 in
set_option maxHeartbeats 8000000 in
theorem p110 (k : Int) : Pure Tryd.prog 49 [.int .u8 k] (.bool (smallK k)) := by
  refine Pure.ofT tab2_ok Tryd.func49 rfl rfl [.tmp 2] rfl (by decide) rfl ⟨9, 4, (.node (.node (.node (.node (.leaf (.int .u8 k)) (J 0)) (J 1)) (J 2)) (J 3)), (OO 4)⟩ (by kernel_rfl) (by kernel_rfl) ?_
  repeat' (first
    | refine allProp_T ?_
    | exact trivial
    | (refine URun.id ?_; first
        | refine URun.nil ?_
        | refine URun.many tabs2 rfl rfl (by kernel_rfl) ?_ ?_
        | refine URun.same tabs2 rfl rfl rfl ?_
        | refine URun.same2 tabs2 rfl rfl rfl ?_
        | refine URun.split tabs2 rfl rfl rfl rfl (fun h => ?_) (fun h => ?_))
    | (refine TRun.id ?_; first
        | refine TRun.nil ?_
        | refine TRun.many rfl rfl (by kernel_rfl) ?_ ?_
        | refine TRun.same rfl rfl rfl ?_
        | refine TRun.same2 rfl rfl rfl ?_
        | refine TRun.split rfl rfl rfl rfl (fun h => ?_) (fun h => ?_))
    | (refine HoldsT.id ?_; first
        | refine HoldsT.seq ?_
        | refine HoldsT.regionU ?_
        | refine HoldsT.drawn tabs2 ?_
        | refine HoldsT.yes rfl ?_
        | refine HoldsT.no rfl ?_
        | refine HoldsT.cond rfl (fun h => ?_) (fun h => ?_)
        | refine HoldsT.block ?_
        | refine HoldsT.ret ?_
        | refine HoldsT.skip ?_
        | refine HoldsT.exit ?_)
    | (refine okTr_intro ?_; kernel_rfl)
    | exact absurd rfl h
    | refine allProp_C ?_ ?_
    | refine And.intro ?_ ?_
    | omega
    | (show _ < List.length _; omega)
    | exact rowlen_intro rfl
    | exact lenEq_intro rfl
    | exact Nat.le_of_ble_eq_true rfl
    | (simp only [AV.rowlenD, AV.rowlen, AV.ncells, mulSz, toN, Option.map_some, Option.map_none, cutL, List.length_take, List.length_drop, List.length_append, List.length_cons, List.length_nil, List.length_set, Option.some.injEq, Int.reduceToNat] <;> omega))
  all_goals refine FinC.te (y := .bool _) rfl rfl trivial (congrArg AV.bool ?_)
  all_goals (unfold smallK; first | exact (decide_eq_true (by omega)).symm | exact (decide_eq_false (by omega)).symm)
set_option maxRecDepth 10000 in
set_option maxHeartbeats 8000000 in
theorem p111 (k : Int) : Pure Tryd.prog 50 [.int .u8 k] (.bool (capK k)) := by
  refine Pure.ofT tab2_ok Tryd.func50 rfl rfl [.tmp 2] rfl (by decide) rfl ⟨9, 4, (.node (.node (.node (.node (.leaf (.int .u8 k)) (J 0)) (J 1)) (J 2)) (J 3)), (OO 4)⟩ (by kernel_rfl) (by kernel_rfl) ?_
  repeat' (first
    | refine allProp_T ?_
    | exact trivial
    | (refine URun.id ?_; first
        | refine URun.nil ?_
        | refine URun.many tabs2 rfl rfl (by kernel_rfl) ?_ ?_
        | refine URun.same tabs2 rfl rfl rfl ?_
        | refine URun.same2 tabs2 rfl rfl rfl ?_
        | refine URun.split tabs2 rfl rfl rfl rfl (fun h => ?_) (fun h => ?_))
    | (refine TRun.id ?_; first
        | refine TRun.nil ?_
        | refine TRun.many rfl rfl (by kernel_rfl) ?_ ?_
        | refine TRun.same rfl rfl rfl ?_
        | refine TRun.same2 rfl rfl rfl ?_
        | refine TRun.split rfl rfl rfl rfl (fun h => ?_) (fun h => ?_))
    | (refine HoldsT.id ?_; first
        | refine HoldsT.seq ?_
        | refine HoldsT.regionU ?_
        | refine HoldsT.drawn tabs2 ?_
        | refine HoldsT.yes rfl ?_
        | refine HoldsT.no rfl ?_
        | refine HoldsT.cond rfl (fun h => ?_) (fun h => ?_)
        | refine HoldsT.block ?_
        | refine HoldsT.ret ?_
        | refine HoldsT.skip ?_
        | refine HoldsT.exit ?_)
    | (refine okTr_intro ?_; kernel_rfl)
    | exact absurd rfl h
    | refine allProp_C ?_ ?_
    | refine And.intro ?_ ?_
    | omega
    | (show _ < List.length _; omega)
    | exact rowlen_intro rfl
    | exact lenEq_intro rfl
    | exact Nat.le_of_ble_eq_true rfl
    | (simp only [AV.rowlenD, AV.rowlen, AV.ncells, mulSz, toN, Option.map_some, Option.map_none, cutL, List.length_take, List.length_drop, List.length_append, List.length_cons, List.length_nil, List.length_set, Option.some.injEq, Int.reduceToNat] <;> omega))
  all_goals refine FinC.te (y := .bool _) rfl rfl trivial (congrArg AV.bool ?_)
  all_goals (unfold capK; first | exact (decide_eq_true (by omega)).symm | exact (decide_eq_false (by omega)).symm)
set_option maxRecDepth 10000 in
set_option maxHeartbeats 8000000 in
theorem p113_tt (k : Int) (hk : inK .u8 k) : Pure Tryd.prog 52 [.int .u8 k, .cptr (.agg [.bool true]) 0, .cptr (.agg [.fn 49 []]) 0, .cptr (.agg [.bool true]) 0, .cptr (.agg [.fn 50 []]) 0] (.int .u8 (caseK true true k)) := by
  have hk0 : 0 ≤ k ∧ k ≤ 255 := hk
  refine Pure.ofT tab2_ok Tryd.func52 rfl rfl [.tmp 6] rfl (by decide) rfl ⟨28, 5, (.node (.node (.node (.node (.node (.leaf (.int .u8 k)) (J 0)) (J 1)) (.node (.node (.leaf (.cptr (.agg [.fn 50 []]) 0)) (J 0)) (J 1))) (.node (.node (.node (.leaf (.cptr (.agg [.fn 49 []]) 0)) (J 0)) (J 1)) (J 2))) (.node (.node (.node (.node (.leaf (.cptr (.agg [.bool true]) 0)) (J 0)) (J 1)) (J 2)) (.node (.node (.node (.leaf (.cptr (.agg [.bool true]) 0)) (J 0)) (J 1)) (J 2)))), (OO 5)⟩ (by kernel_rfl) (by kernel_rfl) ?_
  repeat' (first
    | refine allProp_T ?_
    | exact trivial
    | (refine URun.id ?_; first
        | refine URun.nil ?_
        | refine URun.many tabs2 rfl rfl (by kernel_rfl) ?_ ?_
        | (refine URun.toCall 49 rfl ?_; first
          | refine URun.callB tabs2 rfl rfl rfl rfl (p110 _) rfl rfl ?_ rfl rfl (fun h => ?_) (fun h => ?_))
        | (refine URun.toCall 50 rfl ?_; first
          | refine URun.callB tabs2 rfl rfl rfl rfl (p111 _) rfl rfl ?_ rfl rfl (fun h => ?_) (fun h => ?_))
        | refine URun.same tabs2 rfl rfl rfl ?_
        | refine URun.same2 tabs2 rfl rfl rfl ?_
        | refine URun.split tabs2 rfl rfl rfl rfl (fun h => ?_) (fun h => ?_))
    | (refine TRun.id ?_; first
        | refine TRun.nil ?_
        | refine TRun.many rfl rfl (by kernel_rfl) ?_ ?_
        | (refine TRun.toCall 49 rfl ?_; first
          | refine TRun.callB rfl rfl rfl rfl (p110 _) rfl rfl ?_ rfl rfl (fun h => ?_) (fun h => ?_))
        | (refine TRun.toCall 50 rfl ?_; first
          | refine TRun.callB rfl rfl rfl rfl (p111 _) rfl rfl ?_ rfl rfl (fun h => ?_) (fun h => ?_))
        | refine TRun.same rfl rfl rfl ?_
        | refine TRun.same2 rfl rfl rfl ?_
        | refine TRun.split rfl rfl rfl rfl (fun h => ?_) (fun h => ?_))
    | (refine HoldsT.id ?_; first
        | refine HoldsT.seq ?_
        | refine HoldsT.regionU ?_
        | refine HoldsT.drawn tabs2 ?_
        | refine HoldsT.yes rfl ?_
        | refine HoldsT.no rfl ?_
        | refine HoldsT.cond rfl (fun h => ?_) (fun h => ?_)
        | refine HoldsT.block ?_
        | refine HoldsT.ret ?_
        | refine HoldsT.skip ?_
        | refine HoldsT.exit ?_)
    | (refine okTr_intro ?_; kernel_rfl)
    | exact absurd rfl h
    | (have h5 := of_decide_eq_true h; omega)
    | refine allProp_C ?_ ?_
    | refine And.intro ?_ ?_
    | omega
    | (show _ < List.length _; omega)
    | exact rowlen_intro rfl
    | exact lenEq_intro rfl
    | exact Nat.le_of_ble_eq_true rfl
    | (simp only [AV.rowlenD, AV.rowlen, AV.ncells, mulSz, toN, Option.map_some, Option.map_none, cutL, List.length_take, List.length_drop, List.length_append, List.length_cons, List.length_nil, List.length_set, Option.some.injEq, Int.reduceToNat] <;> omega))
  all_goals refine FinC.te (y := .int .u8 _) rfl rfl trivial (congrArg (AV.int .u8) ?_)
  all_goals (unfold caseK; simp only [*, and_self, and_true, true_and, and_false, false_and, if_true, if_false, Bool.false_eq_true] <;> omega)
/-- The bytes from a on, up to b, are turned. -/
def turnL (f : UInt8 → UInt8) (s : List UInt8) (a b : Nat) : List UInt8 := s.mapIdx fun i x => if a ≤ i ∧ i < b then f x else x
theorem turn_len (f : UInt8 → UInt8) (s : List UInt8) (a b : Nat) : (turnL f s a b).length = s.length := by simp [turnL]
theorem turn_none (f : UInt8 → UInt8) (s : List UInt8) (a : Nat) : turnL f s a a = s := by
  apply List.ext_getElem (turn_len _ _ _ _)
  intro i h1 h2
  simp only [turnL, List.getElem_mapIdx]
  rw [if_neg (by omega)]
theorem turn_step (f : UInt8 → UInt8) (s : List UInt8) {a j : Nat} (h1 : a ≤ j) (h2 : j < s.length) : (turnL f s a j).set j (f ((turnL f s a j).getD j 0)) = turnL f s a (j + 1) := by
  have hl := turn_len f s a j
  apply List.ext_getElem (by simp [turn_len])
  intro i g1 g2
  rw [List.getElem_set]
  split
  · rename_i e
    subst e
    rw [List.getD_eq_getElem?_getD, List.getElem?_eq_getElem (by omega)]
    simp only [turnL, List.getElem_mapIdx, Option.getD_some]
    rw [if_neg (show ¬ (a ≤ j ∧ j < j) by omega), if_pos (by omega)]
  · simp only [turnL, List.getElem_mapIdx]
    by_cases c : a ≤ i ∧ i < j
    · rw [if_pos c, if_pos (by omega)]
    · rw [if_neg c, if_neg (by omega)]
def caseB (up dn : Bool) (x : UInt8) : UInt8 := UInt8.ofNat (caseK up dn (x.toNat : Int)).toNat
theorem case_in (up dn : Bool) {k : Int} (hk : inK .u8 k) : inK .u8 (caseK up dn k) := by
  have hk0 : 0 ≤ k ∧ k ≤ 255 := hk
  show 0 ≤ caseK up dn k ∧ caseK up dn k ≤ 255
  unfold caseK smallK capK
  simp only [decide_eq_true_eq]
  split
  · omega
  · split <;> omega
set_option maxRecDepth 10000 in
set_option maxHeartbeats 8000000 in
theorem p74 (ls : List (List UInt8)) (k fl fc tl tc : Int) : Pure Tryd.prog 45 [.slS ls, .agg [.int .i64 k, .int .i64 fl, .int .i64 fc, .int .i64 tl, .int .i64 tc]] (.bool (validL ls k fl fc tl tc)) := by
  refine Pure.ofT tab2_ok Tryd.func45 rfl rfl [.tmp 4] rfl (by decide) rfl ⟨65, 7, (.node (.node (.node (.node (.node (.node (.node (.leaf (.slS ls)) (J 0)) (J 1)) (J 2)) (J 3)) (J 4)) (J 5)) (.node (.node (.node (.node (.node (.node (.leaf (.agg [.int .i64 k, .int .i64 fl, .int .i64 fc, .int .i64 tl, .int .i64 tc])) (J 0)) (J 1)) (J 2)) (J 3)) (J 4)) (J 5))), (OO 7)⟩ (by kernel_rfl) (by kernel_rfl) ?_
  repeat' (first
    | refine allProp_T ?_
    | exact trivial
    | (refine URun.id ?_; first
        | refine URun.nil ?_
        | refine URun.many tabs2 rfl rfl (by kernel_rfl) ?_ ?_
        | (refine URun.toCall 34 rfl ?_; first
          | refine URun.callB tabs2 rfl rfl rfl rfl (p62 _ _ _) rfl rfl ?_ rfl rfl (fun h => ?_) (fun h => ?_))
        | (refine URun.toCall 60 rfl ?_; first
          | refine URun.callB tabs2 rfl rfl rfl rfl (p26 _ _ _ _) rfl rfl ?_ rfl rfl (fun h => ?_) (fun h => ?_))
        | refine URun.same tabs2 rfl rfl rfl ?_
        | refine URun.same2 tabs2 rfl rfl rfl ?_
        | refine URun.split tabs2 rfl rfl rfl rfl (fun h => ?_) (fun h => ?_))
    | (refine TRun.id ?_; first
        | refine TRun.nil ?_
        | refine TRun.many rfl rfl (by kernel_rfl) ?_ ?_
        | (refine TRun.toCall 34 rfl ?_; first
          | refine TRun.callB rfl rfl rfl rfl (p62 _ _ _) rfl rfl ?_ rfl rfl (fun h => ?_) (fun h => ?_))
        | (refine TRun.toCall 60 rfl ?_; first
          | refine TRun.callB rfl rfl rfl rfl (p26 _ _ _ _) rfl rfl ?_ rfl rfl (fun h => ?_) (fun h => ?_))
        | refine TRun.same rfl rfl rfl ?_
        | refine TRun.same2 rfl rfl rfl ?_
        | refine TRun.split rfl rfl rfl rfl (fun h => ?_) (fun h => ?_))
    | (refine HoldsT.id ?_; first
        | refine HoldsT.seq ?_
        | refine HoldsT.regionU ?_
        | refine HoldsT.drawn tabs2 ?_
        | refine HoldsT.yes rfl ?_
        | refine HoldsT.no rfl ?_
        | refine HoldsT.cond rfl (fun h => ?_) (fun h => ?_)
        | refine HoldsT.block ?_
        | refine HoldsT.ret ?_
        | refine HoldsT.skip ?_
        | refine HoldsT.exit ?_)
    | (refine okTr_intro ?_; kernel_rfl)
    | exact absurd rfl h
    | refine allProp_C ?_ ?_
    | refine And.intro ?_ ?_
    | omega
    | (show _ < List.length _; omega)
    | exact rowlen_intro rfl
    | exact lenEq_intro rfl
    | exact Nat.le_of_ble_eq_true rfl
    | (simp only [AV.rowlenD, AV.rowlen, AV.ncells, mulSz, toN, Option.map_some, Option.map_none, cutL, List.length_take, List.length_drop, List.length_append, List.length_cons, List.length_nil, List.length_set, Option.some.injEq, Int.reduceToNat] <;> omega))
  all_goals refine FinC.te (y := .bool _) rfl rfl trivial (congrArg AV.bool ?_)
  all_goals (simp only [validL]; simp [*]; try omega)
set_option maxRecDepth 10000 in
set_option maxHeartbeats 8000000 in
theorem p75 (s : List UInt8) (k fl fc tl tc : Int) (hs : s.length ≤ 1000000000000) (h0 : 0 ≤ fc) (h1 : fc ≤ tc) : Pure Tryd.prog 46 [.str s, .agg [.int .i64 k, .int .i64 fl, .int .i64 fc, .int .i64 tl, .int .i64 tc]] (.tup [.int .i64 (min fc s.length), .int .i64 (min tc ((s.length : Int) - 1) + 1)]) := by
  refine Pure.ofT tab2_ok Tryd.func46 rfl rfl [.tmp 4, .tmp 5] rfl (by decide) rfl ⟨30, 5, (.node (.node (.node (.node (.node (.leaf (.str s)) (J 0)) (J 1)) (J 2)) (J 3)) (.node (.node (.node (.node (.leaf (.agg [.int .i64 k, .int .i64 fl, .int .i64 fc, .int .i64 tl, .int .i64 tc])) (J 0)) (J 1)) (J 2)) (J 3))), (OO 5)⟩ (by kernel_rfl) (by kernel_rfl) ?_
  repeat' (first
    | refine allProp_T ?_
    | exact trivial
    | (refine URun.id ?_; first
        | refine URun.nil ?_
        | refine URun.many tabs2 rfl rfl (by kernel_rfl) ?_ ?_
        | refine URun.same tabs2 rfl rfl rfl ?_
        | refine URun.same2 tabs2 rfl rfl rfl ?_
        | refine URun.split tabs2 rfl rfl rfl rfl (fun h => ?_) (fun h => ?_))
    | (refine TRun.id ?_; first
        | refine TRun.nil ?_
        | refine TRun.many rfl rfl (by kernel_rfl) ?_ ?_
        | refine TRun.same rfl rfl rfl ?_
        | refine TRun.same2 rfl rfl rfl ?_
        | refine TRun.split rfl rfl rfl rfl (fun h => ?_) (fun h => ?_))
    | (refine HoldsT.id ?_; first
        | refine HoldsT.seq ?_
        | refine HoldsT.regionU ?_
        | refine HoldsT.drawn tabs2 ?_
        | refine HoldsT.yes rfl ?_
        | refine HoldsT.no rfl ?_
        | refine HoldsT.cond rfl (fun h => ?_) (fun h => ?_)
        | refine HoldsT.block ?_
        | refine HoldsT.ret ?_
        | refine HoldsT.skip ?_
        | refine HoldsT.exit ?_)
    | (refine okTr_intro ?_; kernel_rfl)
    | exact absurd rfl h
    | refine allProp_C ?_ ?_
    | refine And.intro ?_ ?_
    | omega
    | (show _ < List.length _; omega)
    | exact rowlen_intro rfl
    | exact lenEq_intro rfl
    | exact Nat.le_of_ble_eq_true rfl
    | (simp only [AV.rowlenD, AV.rowlen, AV.ncells, mulSz, toN, Option.map_some, Option.map_none, cutL, List.length_take, List.length_drop, List.length_append, List.length_cons, List.length_nil, List.length_set, Option.some.injEq, Int.reduceToNat] <;> omega))
  all_goals refine FinC.te (y := .tup [.int .i64 _, .int .i64 _]) rfl rfl ⟨trivial, trivial, trivial⟩ ?_
  all_goals (refine tup2 ?_ ?_ <;> omega)
def sh51 (ls : List (List UInt8)) (k fl fc tl tc i : Int) (out : List (List UInt8)) : TS := ⟨79, 7, (.node (.node (.node (.node (.node (.node (.node (.leaf (.slS ls)) (J 0)) (J 1)) (J 2)) (J 3)) (J 4)) (.node (J 4) (.node (.node (.node (.node (.leaf (.int .i64 i)) (J 0)) (J 1)) (J 2)) (J 3)))) (.node (.node (J 4) (.node (.node (.node (.node (.leaf (.own 62 out.length)) (J 0)) (J 1)) (J 2)) (J 3))) (.node (.node (.node (.node (.node (.leaf (.ptr 3 0)) (J 0)) (J 1)) (J 2)) (J 3)) (J 4)))), (.node (.node (OO 5) (.node (OO 4) (.node (OO 3) (.node (OO 2) (.node (OO 1) (.node (.leaf (some ⟨true, true, .slS out, 9⟩)) (OO 0))))))) (.node (OO 5) (.node (.node (.node (.node (.node (.leaf (some ⟨true, false, .agg [.int .i64 k, .int .i64 fl, .int .i64 fc, .int .i64 tl, .int .i64 tc], 49⟩)) (OO 0)) (OO 1)) (OO 2)) (OO 3)) (OO 4))))⟩
theorem cut_all {α : Type} {l : List α} {a b : Nat} (h0 : a = 0) (h1 : b = l.length) : l = cutL l (some a) (some b) := by subst h0 h1; simp [cutL]
set_option maxRecDepth 10000 in
set_option maxHeartbeats 8000000 in
theorem p51 (ls : List (List UInt8)) (k fl fc tl tc : Int) (hL : ls.length ≤ 1000000000) (hB : ∀ n : Nat, (ls.getD n []).length ≤ 1000000000000) : Pure Tryd.prog 25 [.slS ls, .agg [.int .i64 k, .int .i64 fl, .int .i64 fc, .int .i64 tl, .int .i64 tc]] (.slS (textL ls k fl fc tl tc)) := by
  refine Pure.ofT tab2_ok Tryd.func25 rfl rfl [.tmp 4] rfl (by decide) rfl ⟨79, 7, (.node (.node (.node (.node (.node (.node (.node (.leaf (.slS ls)) (J 0)) (J 1)) (J 2)) (J 3)) (J 4)) (J 5)) (.node (.node (.node (.node (.node (.node (.leaf (.agg [.int .i64 k, .int .i64 fl, .int .i64 fc, .int .i64 tl, .int .i64 tc])) (J 0)) (J 1)) (J 2)) (J 3)) (J 4)) (J 5))), (OO 7)⟩ (by kernel_rfl) (by kernel_rfl) ?_
  repeat' (first
    | refine allProp_T ?_
    | exact trivial
    | (refine URun.id ?_; first
        | refine URun.nil ?_
        | refine URun.many tabs2 rfl rfl (by kernel_rfl) ?_ ?_
        | (refine URun.toCall 45 rfl ?_; first
          | refine URun.callB tabs2 rfl rfl rfl rfl (p74 _ _ _ _ _ _) rfl rfl ?_ rfl rfl (fun h => ?_) (fun h => ?_))
        | refine URun.same tabs2 rfl rfl rfl ?_
        | refine URun.same2 tabs2 rfl rfl rfl ?_
        | refine URun.split tabs2 rfl rfl rfl rfl (fun h => ?_) (fun h => ?_))
    | (refine TRun.id ?_; first
        | refine TRun.nil ?_
        | refine TRun.many rfl rfl (by kernel_rfl) ?_ ?_
        | (refine TRun.toCall 45 rfl ?_; first
          | refine TRun.callB rfl rfl rfl rfl (p74 _ _ _ _ _ _) rfl rfl ?_ rfl rfl (fun h => ?_) (fun h => ?_))
        | refine TRun.same rfl rfl rfl ?_
        | refine TRun.same2 rfl rfl rfl ?_
        | refine TRun.split rfl rfl rfl rfl (fun h => ?_) (fun h => ?_))
    | (refine HoldsT.id ?_; first
        | refine HoldsT.seq ?_
        | refine HoldsT.regionU ?_
        | refine HoldsT.drawn tabs2 ?_
        | refine HoldsT.yes rfl ?_
        | refine HoldsT.no rfl ?_
        | refine HoldsT.cond rfl (fun h => ?_) (fun h => ?_)
        | refine HoldsT.block ?_
        | refine HoldsT.ret ?_
        | refine HoldsT.skip ?_
        | refine HoldsT.exit ?_)
    | (refine okTr_intro ?_; kernel_rfl)
    | exact absurd rfl h
    | refine allProp_C ?_ ?_
    | refine And.intro ?_ ?_
    | omega
    | (show _ < List.length _; omega)
    | exact rowlen_intro rfl
    | exact lenEq_intro rfl
    | exact Nat.le_of_ble_eq_true rfl
    | (simp only [AV.rowlenD, AV.rowlen, AV.ncells, mulSz, toN, Option.map_some, Option.map_none, cutL, List.length_take, List.length_drop, List.length_append, List.length_cons, List.length_nil, List.length_set, Option.some.injEq, Int.reduceToNat] <;> omega))
  · obtain ⟨hv1, hv2⟩ := validL_spec ‹_›
    refine HoldsT.loop (fun x : Int × List (List UInt8) => sh51 ls k fl fc tl tc x.1 x.2) (fun x => (tl + 1 - x.1).toNat) (fun x => fl ≤ x.1 ∧ x.1 ≤ tl + 1 ∧ x.2 = rowsT ls k fl fc tl tc (x.1 - fl).toNat) (fl, []) ?_ ?_ (fun _ => by kernel_rfl) ?_
    · refine (WeakT.canon 5 62 9 (.slS []) rfl rfl rfl (by kernel_rfl) rfl).trans ?_
      refine WeakT.of ?_ ?_ (by kernel_rfl)
      · repeat' (first | exact TTle.junk _ _ | exact TTle.same _ | refine TTle.node ?_ ?_ | refine TTle.leaf ?_ | exact AVle.junk _ | exact AVle.rfl' rfl | exact AVle.nilS | exact AVle.nilB)
      · repeat' (first | exact OOle.none _ _ | exact OOle.same _ | refine OOle.node ?_ ?_ | exact OOle.leaf _ | exact OOle.gone _)
    · exact ⟨by simp, by simp; omega, by simp [rowsT]⟩
    · intro x hx
      obtain ⟨i, out⟩ := x
      obtain ⟨h1, h2, h3⟩ := hx
      simp only at h1 h2 h3
      have hlen : out.length = (i - fl).toNat := by rw [h3]; exact rowsT_length _ _ _ _ _ _ _
      have hb := hB i.toNat
      have hc : i ≤ tl → 0 ≤ colF ls k fl fc i ∧ colF ls k fl fc i ≤ colT ls k tl tc i ∧ colT ls k tl tc i ≤ ((ls.getD i.toNat []).length : Int) := fun hi => cols_ok ‹_› h1 hi
      have hz : k = 0 → (0 ≤ fc ∧ fc ≤ ((ls.getD fl.toNat []).length : Int)) ∧ (0 ≤ tc ∧ tc ≤ ((ls.getD tl.toNat []).length : Int)) := fun e => by
        rcases hv2 with ⟨_, q1, q2, _⟩ | q | q
        · exact ⟨q1, q2⟩
        · omega
        · omega
      have hf : i = fl → (ls.getD i.toNat []).length = (ls.getD fl.toNat []).length := fun e => by rw [e]
      have ht : i = tl → (ls.getD i.toNat []).length = (ls.getD tl.toNat []).length := fun e => by rw [e]
      have hft : fl = tl → fc ≤ tc ∨ k ≠ 0 := fun e => by
        rcases hv2 with ⟨_, q1, q2, q3⟩ | q | q
        · exact .inl (q3 e)
        · omega
        · omega
      have k75 : k = 2 → Pure Tryd.prog 46 [.str (ls.getD i.toNat []), .agg [.int .i64 k, .int .i64 fl, .int .i64 fc, .int .i64 tl, .int .i64 tc]] (.tup [.int .i64 (min fc (ls.getD i.toNat []).length), .int .i64 (min tc (((ls.getD i.toNat []).length : Int) - 1) + 1)]) := fun e => p75 _ k fl fc tl tc (by omega) (by omega) (by omega)
      have hrow : ∀ p q : Int, p = colF ls k fl fc i → q = colT ls k tl tc i → some (Obj.mk true true (.slS (out ++ [cutL (ls.getD i.toNat []) (toN (some p)) (toN (some q))])) 9) = some (Obj.mk true true (.slS (out ++ [rowT ls k fl fc tl tc i])) 9) := fun p q e1 e2 => by subst e1 e2; rfl
      have hrow3 : colF ls k fl fc i = 0 → colT ls k tl tc i = ((ls.getD i.toNat []).length : Int) → some (Obj.mk true true (.slS (out ++ [ls.getD i.toNat []])) 9) = some (Obj.mk true true (.slS (out ++ [rowT ls k fl fc tl tc i])) 9) := fun e1 e2 => by
        unfold rowT
        rw [e1, e2, ← cut_all (show (0 : Int).toNat = 0 by rfl) (show (((ls.getD i.toNat []).length : Int)).toNat = _ by simp)]
      show HoldsT Tryd.prog _ (sh51 ls k fl fc tl tc i out) _
      repeat' (first
        | refine allProp_T ?_
        | exact trivial
        | (refine URun.id ?_; first
            | refine URun.nil ?_
            | refine URun.many tabs2 rfl rfl (by kernel_rfl) ?_ ?_
            | (refine URun.toCall 46 rfl ?_; first
              | refine URun.call tabs2 rfl rfl rfl rfl (k75 ‹_›) rfl rfl ?_ rfl ?_)
            | refine URun.same tabs2 rfl rfl rfl ?_
            | refine URun.same2 tabs2 rfl rfl rfl ?_
            | refine URun.split tabs2 rfl rfl rfl rfl (fun h => ?_) (fun h => ?_))
        | (refine TRun.id ?_; first
            | refine TRun.nil ?_
            | refine TRun.many rfl rfl (by kernel_rfl) ?_ ?_
            | (refine TRun.toCall 46 rfl ?_; first
              | refine TRun.call rfl rfl rfl rfl (k75 ‹_›) rfl rfl ?_ rfl ?_)
            | refine TRun.same rfl rfl rfl ?_
            | refine TRun.same2 rfl rfl rfl ?_
            | refine TRun.split rfl rfl rfl rfl (fun h => ?_) (fun h => ?_))
        | (refine HoldsT.id ?_; first
            | refine HoldsT.seq ?_
            | refine HoldsT.regionU ?_
            | refine HoldsT.drawn tabs2 ?_
            | refine HoldsT.yes rfl ?_
            | refine HoldsT.no rfl ?_
            | refine HoldsT.cond rfl (fun h => ?_) (fun h => ?_)
            | refine HoldsT.block ?_
            | refine HoldsT.ret ?_
            | refine HoldsT.skip ?_
            | refine HoldsT.exit ?_)
        | (refine okTr_intro ?_; kernel_rfl)
        | exact absurd rfl h
        | refine allProp_C ?_ ?_
        | refine And.intro ?_ ?_
        | omega
        | (show _ < List.length _; omega)
        | exact rowlen_intro rfl
        | exact lenEq_intro rfl
        | exact Nat.le_of_ble_eq_true rfl
        | (simp only [AV.rowlenD, AV.rowlen, AV.ncells, mulSz, toN, Option.map_some, Option.map_none, cutL, List.length_take, List.length_drop, List.length_append, List.length_cons, List.length_nil, List.length_set, Option.some.injEq, Int.reduceToNat] <;> omega))
      all_goals first
        | (refine ⟨(i + 1, out ++ [rowT ls k fl fc tl tc i]), ⟨by simp only at *; omega, by simp only at *; omega, by simp only at *; omega, ?_⟩, ?_⟩
           · simp only
             rw [show (i + 1 - fl).toNat = (i - fl).toNat + 1 by omega, rowsT, ← h3, show fl + ((i - fl).toNat : Int) = i by omega]
           · refine WeakT.of ?_ ?_ (by kernel_rfl)
             · repeat' (first | exact TTle.junk _ _ | exact TTle.same _ | refine TTle.node ?_ ?_ | refine TTle.leaf ?_ | exact AVle.junk _ | exact AVle.rfl' rfl | exact AVle.rfl' (congrArg (AV.own 62) (tail_row _ _)))
             · repeat' (first | exact OOle.none _ _ | exact OOle.same _ | refine OOle.node ?_ ?_ | exact OOle.leaf _ | exact OOle.eq (hrow _ _ (by unfold colF lenL; (repeat' split) <;> omega) (by unfold colT lenL; (repeat' split) <;> omega)) | exact OOle.eq (hrow3 (by unfold colF lenL; (repeat' split) <;> omega) (by unfold colT lenL; (repeat' split) <;> omega)) | exact OOle.gone _))
        | (refine FinC.te (y := .slS _) rfl rfl ⟨rfl, trivial⟩ (congrArg AV.slS ?_)
           rw [textL, if_pos ‹_›, h3, show i = tl + 1 by omega, show tl + 1 - fl = tl - fl + 1 by omega])
  · exact FinC.t (y := .nilsl) rfl rfl trivial (by rw [textL, h]; exact AVle.nilS)
theorem lenL_congr {x y : List (List UInt8)} (h : ∀ i : Nat, (x.getD i []).length = (y.getD i []).length) : lenL x = lenL y := funext fun i => by unfold lenL; rw [h]
theorem colF_congr {x y : List (List UInt8)} (h : ∀ i : Nat, (x.getD i []).length = (y.getD i []).length) : colF x = colF y := by
  funext k fl fc i; unfold colF; rw [lenL_congr h]
theorem colT_congr {x y : List (List UInt8)} (h : ∀ i : Nat, (x.getD i []).length = (y.getD i []).length) : colT x = colT y := by
  funext k tl tc i; unfold colT; rw [lenL_congr h]
theorem validL_congr {x y : List (List UInt8)} (hl : x.length = y.length) (h : ∀ i : Nat, (x.getD i []).length = (y.getD i []).length) : validL x = validL y := by
  funext k fl fc tl tc; unfold validL placeL; rw [hl, h, h]
theorem caseB_nat (up dn : Bool) (x : UInt8) : ((caseB up dn x).toNat : Int) = caseK up dn (x.toNat : Int) := by
  have h := case_in up dn (u8_in x)
  have h' : 0 ≤ caseK up dn (x.toNat : Int) ∧ caseK up dn (x.toNat : Int) ≤ 255 := h
  unfold caseB
  rw [UInt8.toNat_ofNat']
  omega
theorem u8_ext {x y : UInt8} (h : (x.toNat : Int) = y.toNat) : x = y := UInt8.toNat_inj.1 (by omega)
theorem case_twice (up : Bool) (x : UInt8) : caseB up (!up) (caseB up (!up) x) = caseB up (!up) x := by
  apply u8_ext
  rw [caseB_nat, caseB_nat]
  unfold caseK smallK capK
  cases up <;> simp only [decide_eq_true_eq, true_and, Bool.false_eq_true, Bool.not_true, Bool.not_false, false_and, if_false] <;> (repeat' split) <;> omega
theorem turn_getD (f : UInt8 → UInt8) (s : List UInt8) (a b i : Nat) (h : i < s.length) : (turnL f s a b).getD i 0 = if a ≤ i ∧ i < b then f (s.getD i 0) else s.getD i 0 := by
  simp [turnL, List.getD_eq_getElem?_getD, h]
theorem turn_twice {f : UInt8 → UInt8} (hf : ∀ x, f (f x) = f x) (s : List UInt8) (a b : Nat) : turnL f (turnL f s a b) a b = turnL f s a b := by
  apply List.ext_getElem (by simp [turn_len])
  intro i h1 h2
  simp only [turnL, List.getElem_mapIdx]
  split
  · exact hf _
  · rfl
set_option maxRecDepth 10000 in
set_option maxHeartbeats 8000000 in
theorem p77 (ls now : List (List UInt8)) (a b : Int) (hl : ls.length ≤ 1000000000) (h0 : 0 ≤ a) (h1 : a ≤ b + 1) (h2 : b < ls.length) : Pure Tryd.prog 35 [.slS ls, .int .i64 a, .int .i64 b, .slS now] (.tup [.agg [.int .i64 a, .slS (midL ls a (b - a + 1)), .slS now], .bool true]) := by
  have e : midL ls a (b - a + 1) = cutL ls (some a.toNat) (some (b + 1).toNat) := by
    unfold midL; rw [show a + (b - a + 1) = b + 1 by omega]
  have hc : (cutL ls (some a.toNat) (some (b + 1).toNat)).length ≤ ls.length := cutL_le _ _ _
  rw [e]
  refine Pure.ofT tab2_ok Tryd.func35 rfl rfl [.cell 8 31, .tmp 9] rfl (by decide) rfl ⟨19, 5, (.node (.node (.node (.node (.node (.leaf (.slS ls)) (J 0)) (J 1)) (J 2)) (.node (.node (.node (.leaf (.int .i64 b)) (J 0)) (J 1)) (J 2))) (.node (.node (.node (.node (.leaf (.int .i64 a)) (J 0)) (J 1)) (J 2)) (.node (.node (.node (.leaf (.slS now)) (J 0)) (J 1)) (J 2)))), (OO 5)⟩ (by kernel_rfl) (by kernel_rfl) ?_
  repeat' (first
    | refine allProp_T ?_
    | exact trivial
    | (refine URun.id ?_; first
        | refine URun.nil ?_
        | refine URun.many tabs2 rfl rfl (by kernel_rfl) ?_ ?_
        | refine URun.same tabs2 rfl rfl rfl ?_
        | refine URun.same2 tabs2 rfl rfl rfl ?_
        | refine URun.split tabs2 rfl rfl rfl rfl (fun h => ?_) (fun h => ?_))
    | (refine TRun.id ?_; first
        | refine TRun.nil ?_
        | refine TRun.many rfl rfl (by kernel_rfl) ?_ ?_
        | refine TRun.same rfl rfl rfl ?_
        | refine TRun.same2 rfl rfl rfl ?_
        | refine TRun.split rfl rfl rfl rfl (fun h => ?_) (fun h => ?_))
    | (refine HoldsT.id ?_; first
        | refine HoldsT.seq ?_
        | refine HoldsT.regionU ?_
        | refine HoldsT.drawn tabs2 ?_
        | refine HoldsT.yes rfl ?_
        | refine HoldsT.no rfl ?_
        | refine HoldsT.cond rfl (fun h => ?_) (fun h => ?_)
        | refine HoldsT.block ?_
        | refine HoldsT.ret ?_
        | refine HoldsT.skip ?_
        | refine HoldsT.exit ?_)
    | (refine okTr_intro ?_; kernel_rfl)
    | exact absurd rfl h
    | refine allProp_C ?_ ?_
    | refine And.intro ?_ ?_
    | omega
    | (show _ < List.length _; omega)
    | exact rowlen_intro rfl
    | exact lenEq_intro rfl
    | exact Nat.le_of_ble_eq_true rfl
    | (simp only [AV.rowlenD, AV.rowlen, AV.ncells, mulSz, toN, Option.map_some, Option.map_none, cutL, List.length_take, List.length_drop, List.length_append, List.length_cons, List.length_nil, List.length_set, Option.some.injEq, Int.reduceToNat] <;> omega))
  all_goals exact FinC.te (y := .tup [.agg [.int .i64 _, .slS _, .slS _], .bool _]) rfl rfl ⟨⟨trivial, ⟨rfl, trivial⟩, trivial, trivial⟩, trivial, trivial⟩ rfl
theorem writeL_getD (s : List UInt8) (c : Int) (t : List (List UInt8)) (h : 0 < t.length) : (writeL s c t).length = t.length ∧ ∀ i : Nat, i < t.length → (writeL s c t).getD i [] = (if i = 0 then s.take c.toNat else []) ++ t.getD i [] ++ (if i = t.length - 1 then s.drop c.toNat else []) := by
  unfold writeL
  refine ⟨by simp, fun i hi => ?_⟩
  have e1 : ((t.length : Int) - 1).toNat = t.length - 1 := by omega
  have e2 : ∀ j : Nat, j < t.length → (t.set 0 (cutL s none (some c.toNat) ++ t.getD 0 [])).getD j [] = (if j = 0 then s.take c.toNat else []) ++ t.getD j [] := fun j hj => by
    rw [List.getD_eq_getElem?_getD, List.getElem?_set]
    by_cases h0 : 0 = j
    · subst h0; rw [if_pos rfl, if_pos h, if_pos rfl]; rfl
    · rw [if_neg h0, if_neg (fun e => h0 e.symm), List.nil_append, List.getD_eq_getElem?_getD]
  rw [e1, List.getD_eq_getElem?_getD, List.getElem?_set]
  by_cases hl : t.length - 1 = i
  · rw [if_pos hl, if_pos (by simp; omega), if_pos hl.symm, Option.getD_some, hl, e2 i hi]; rfl
  · rw [if_neg hl, if_neg (show ¬ i = t.length - 1 from fun e => hl e.symm), List.append_nil, ← List.getD_eq_getElem?_getD, e2 i hi]
theorem ext_getL {x y : List (List UInt8)} (hl : x.length = y.length) (h : ∀ i : Nat, x.getD i [] = y.getD i []) : x = y := by
  apply List.ext_getElem hl
  intro i h1 h2
  have := h i
  simpa [h1, h2] using this
theorem noLF_cut {s : List UInt8} (h : noLF s = true) (a b : Option Nat) : noLF (cutL s a b) = true := by
  unfold noLF at *
  rw [List.all_eq_true] at *
  intro x hx
  apply h
  cases a <;> cases b <;> simp only [cutL] at hx
  · exact hx
  · exact List.mem_of_mem_take hx
  · exact List.mem_of_mem_drop hx
  · exact List.mem_of_mem_take (List.mem_of_mem_drop hx)
theorem getD_noLF {ls : List (List UInt8)} (h : ls.all noLF = true) (n : Nat) : noLF (ls.getD n []) = true := by
  rw [List.all_eq_true] at h
  by_cases hn : n < ls.length
  · have : ls.getD n [] = ls[n] := by simp [hn]
    rw [this]; exact h _ (List.getElem_mem hn)
  · rw [List.getD_eq_getElem?_getD, List.getElem?_eq_none (by omega)]; rfl
theorem text_noLF {ls : List (List UInt8)} (h : ls.all noLF = true) (k fl fc tl tc : Int) : (textL ls k fl fc tl tc).all noLF = true := by
  unfold textL
  split
  · rw [rowsT_map, List.all_eq_true]
    intro x hx
    obtain ⟨i, _, rfl⟩ := List.mem_map.1 hx
    exact noLF_cut (getD_noLF h _) _ _
  · rfl
theorem parts_whole {ls : List (List UInt8)} {a n : Int} (h0 : 0 ≤ a) (h1 : 0 ≤ n) (h2 : a + n ≤ ls.length) : ls.take a.toNat ++ midL ls a n ++ ls.drop (a + n).toNat = ls := by
  simp only [midL, cutL]
  have e : ls.take (a + n).toNat = ls.take a.toNat ++ (ls.take (a + n).toNat).drop a.toNat := by
    have := (List.take_append_drop a.toNat (ls.take (a + n).toNat)).symm
    rwa [List.take_take, Nat.min_eq_left (by omega)] at this
  rw [← e, List.take_append_drop]
set_option maxRecDepth 10000 in
set_option maxHeartbeats 8000000 in
theorem p42 (x n : Int) (hx : inK .i64 x) (hn : 0 < n ∧ n ≤ 1000000000) : Pure Tryd.prog 18 [.int .i64 x, .int .i64 n] (.int .i64 (if x.tmod n < 0 then x.tmod n + n else x.tmod n)) := by
  have h1 := Int.tmod_lt_of_pos x hn.1
  have h2 := Int.lt_tmod_of_pos x hn.1
  refine Pure.ofT tab2_ok Tryd.func18 rfl rfl [.tmp 4] rfl (by decide) rfl ⟨14, 4, (.node (.node (.node (.node (.leaf (.int .i64 x)) (J 0)) (J 1)) (J 2)) (.node (.node (.node (.leaf (.int .i64 n)) (J 0)) (J 1)) (J 2))), (OO 4)⟩ (by kernel_rfl) (by kernel_rfl) ?_
  repeat' (first
    | refine allProp_T ?_
    | exact trivial
    | (refine URun.id ?_; first
        | refine URun.nil ?_
        | refine URun.many tabs2 rfl rfl (by kernel_rfl) ?_ ?_
        | refine URun.same tabs2 rfl rfl rfl ?_
        | refine URun.same2 tabs2 rfl rfl rfl ?_
        | refine URun.split tabs2 rfl rfl rfl rfl (fun h => ?_) (fun h => ?_))
    | (refine TRun.id ?_; first
        | refine TRun.nil ?_
        | refine TRun.many rfl rfl (by kernel_rfl) ?_ ?_
        | refine TRun.same rfl rfl rfl ?_
        | refine TRun.same2 rfl rfl rfl ?_
        | refine TRun.split rfl rfl rfl rfl (fun h => ?_) (fun h => ?_))
    | (refine HoldsT.id ?_; first
        | refine HoldsT.seq ?_
        | refine HoldsT.regionU ?_
        | refine HoldsT.drawn tabs2 ?_
        | refine HoldsT.yes rfl ?_
        | refine HoldsT.no rfl ?_
        | refine HoldsT.cond rfl (fun h => ?_) (fun h => ?_)
        | refine HoldsT.block ?_
        | refine HoldsT.ret ?_
        | refine HoldsT.skip ?_
        | refine HoldsT.exit ?_)
    | (refine okTr_intro ?_; kernel_rfl)
    | exact absurd rfl h
    | refine allProp_C ?_ ?_
    | refine And.intro ?_ ?_
    | omega
    | (show _ < List.length _; omega)
    | exact rowlen_intro rfl
    | exact lenEq_intro rfl
    | exact Nat.le_of_ble_eq_true rfl
    | (simp only [AV.rowlenD, AV.rowlen, AV.ncells, mulSz, toN, Option.map_some, Option.map_none, cutL, List.length_take, List.length_drop, List.length_append, List.length_cons, List.length_nil, List.length_set, Option.some.injEq, Int.reduceToNat] <;> omega))
  all_goals first
    | exact FinC.te (y := .int .i64 _) rfl rfl trivial (congrArg (AV.int .i64) (if_pos ‹_›).symm)
    | exact FinC.te (y := .int .i64 _) rfl rfl trivial (congrArg (AV.int .i64) (if_neg ‹_›).symm)

end Go.Proofs.YtefbgdnobnemkaaDoor.AM
