/-
  Changes that are done.
-/
import Derived.Test.YtefbgdnobnemkaaF25
set_option linter.unusedSimpArgs false
set_option linter.unusedVariables false
set_option linter.unusedSectionVars false
namespace Go.Proofs.Ytefbgdnobnemkaa.AM
open Go Go.RowKit

theorem rowGc {sz n : Nat} {cs : List AV} {a b c : AV} (hs : sz = 1) (h : cs = [a, b, c]) (hn : n = 3) : (AV.slG sz cs).rowlen = some n := by subst hs h hn; simp [AV.rowlen]

def sh114 (a b : List (List UInt8)) (k : Int) : TS := ⟨26, 5, (.node (.node (.node (.node (.node (.leaf (.slS a)) (J 0)) (J 1)) (.node (J 1) (.node (.leaf (.int .i64 (a.length : Int))) (J 0)))) (J 3)) (.node (.node (.node (.node (.leaf (.slS b)) (J 0)) (J 1)) (.node (J 1) (.node (.leaf (.int .i64 k)) (J 0)))) (J 3))), (OO 5)⟩
set_option maxRecDepth 10000 in
set_option maxHeartbeats 8000000 in
theorem p114 (a b : List (List UInt8)) (ha : a.length ≤ 1000000000000) : Pure Try.prog 114 [.slS a, .slS b] (.bool (decide (a = b))) := by
  refine Pure.ofT tab2_ok Try.func114 rfl rfl [.tmp 4] rfl (by decide) rfl ⟨26, 5, (.node (.node (.node (.node (.node (.leaf (.slS a)) (J 0)) (J 1)) (J 2)) (J 3)) (.node (.node (.node (.node (.leaf (.slS b)) (J 0)) (J 1)) (J 2)) (J 3))), (OO 5)⟩ (by kernel_rfl) (by kernel_rfl) ?_
  repeat' (first
    | refine allProp_T ?_
    | exact trivial
    | (refine URun.id ?_; first
        | refine URun.nil ?_
        | refine URun.many tabs2 rfl rfl (by kernel_rfl) ?_ ?_
        | refine URun.same tabs2 rfl rfl rfl ?_
        | refine URun.same2 tabs2 rfl rfl rfl ?_
        | refine URun.split tabs2 rfl rfl rfl rfl (fun h => ?_) (fun h => ?_))
    | (refine TRun.id ?_; first
        | refine TRun.nil ?_
        | refine TRun.many rfl rfl (by kernel_rfl) ?_ ?_
        | refine TRun.same rfl rfl rfl ?_
        | refine TRun.same2 rfl rfl rfl ?_
        | refine TRun.split rfl rfl rfl rfl (fun h => ?_) (fun h => ?_))
    | (refine HoldsT.id ?_; first
        | refine HoldsT.seq ?_
        | refine HoldsT.regionU ?_
        | refine HoldsT.drawn tabs2 ?_
        | refine HoldsT.yes rfl ?_
        | refine HoldsT.no rfl ?_
        | refine HoldsT.cond rfl (fun h => ?_) (fun h => ?_)
        | refine HoldsT.block ?_
        | refine HoldsT.ret ?_
        | refine HoldsT.skip ?_
        | refine HoldsT.exit ?_)
    | (refine okTr_intro ?_; kernel_rfl)
    | exact absurd rfl h
    | refine allProp_C ?_ ?_
    | refine And.intro ?_ ?_
    | omega
    | (show _ < List.length _; omega)
    | exact rowlen_intro rfl
    | exact lenEq_intro rfl
    | exact Nat.le_of_ble_eq_true rfl
    | (simp only [AV.rowlenD, AV.rowlen, AV.ncells, mulSz, toN, Option.map_some, Option.map_none, cutL, List.length_take, List.length_drop, List.length_append, List.length_cons, List.length_nil, List.length_set, Option.some.injEq, Int.reduceToNat] <;> omega))
  · exact FinC.te (y := .bool _) rfl rfl trivial (congrArg AV.bool (decide_eq_false (fun e => by subst e; omega)).symm)
  · refine HoldsT.loop (fun k : Int => sh114 a b k) (fun k => (a.length - k).toNat) (fun k => 0 ≤ k ∧ k ≤ a.length ∧ a.take k.toNat = b.take k.toNat) 0 ?_ ?_ (fun _ => by kernel_rfl) ?_
    · refine WeakT.of ?_ ?_ (by kernel_rfl)
      · repeat' (first | exact TTle.junk _ _ | exact TTle.same _ | refine TTle.node ?_ ?_ | refine TTle.leaf ?_ | exact AVle.junk _ | exact AVle.rfl' rfl | exact AVle.nilS | exact AVle.nilB)
      · repeat' (first | exact OOle.none _ _ | exact OOle.same _ | refine OOle.node ?_ ?_ | exact OOle.leaf _ | exact OOle.gone _)
    · exact ⟨by simp, by simp, by simp⟩
    · intro k hk
      obtain ⟨h1, h2, h3⟩ := hk
      show HoldsT Try.prog _ (sh114 a b k) _
      repeat' (first
        | refine allProp_T ?_
        | exact trivial
        | (refine URun.id ?_; first
            | refine URun.nil ?_
            | refine URun.many tabs2 rfl rfl (by kernel_rfl) ?_ ?_
            | refine URun.same tabs2 rfl rfl rfl ?_
            | refine URun.same2 tabs2 rfl rfl rfl ?_
            | refine URun.split tabs2 rfl rfl rfl rfl (fun h => ?_) (fun h => ?_))
        | (refine TRun.id ?_; first
            | refine TRun.nil ?_
            | refine TRun.many rfl rfl (by kernel_rfl) ?_ ?_
            | refine TRun.same rfl rfl rfl ?_
            | refine TRun.same2 rfl rfl rfl ?_
            | refine TRun.split rfl rfl rfl rfl (fun h => ?_) (fun h => ?_))
        | (refine HoldsT.id ?_; first
            | refine HoldsT.seq ?_
            | refine HoldsT.regionU ?_
            | refine HoldsT.drawn tabs2 ?_
            | refine HoldsT.yes rfl ?_
            | refine HoldsT.no rfl ?_
            | refine HoldsT.cond rfl (fun h => ?_) (fun h => ?_)
            | refine HoldsT.block ?_
            | refine HoldsT.ret ?_
            | refine HoldsT.skip ?_
            | refine HoldsT.exit ?_)
        | (refine okTr_intro ?_; kernel_rfl)
        | exact absurd rfl h
        | refine allProp_C ?_ ?_
        | refine And.intro ?_ ?_
        | omega
        | (show _ < List.length _; omega)
        | exact rowlen_intro rfl
        | exact lenEq_intro rfl
        | exact Nat.le_of_ble_eq_true rfl
        | (simp only [AV.rowlenD, AV.rowlen, AV.ncells, mulSz, toN, Option.map_some, Option.map_none, cutL, List.length_take, List.length_drop, List.length_append, List.length_cons, List.length_nil, List.length_set, Option.some.injEq, Int.reduceToNat] <;> omega))
      · exact FinC.te (y := .bool _) rfl rfl trivial (congrArg AV.bool (decide_eq_false (fun e => by subst e; exact h rfl)).symm)
      · refine ⟨k + 1, ⟨by omega, by omega, by omega, ?_⟩, ?_⟩
        · rw [toNat_succ h1]; exact take_succ_eq (d := []) h3 (by omega) (by omega) (Classical.not_not.1 h)
        · refine WeakT.of ?_ ?_ (by kernel_rfl)
          · repeat' (first | exact TTle.junk _ _ | exact TTle.same _ | refine TTle.node ?_ ?_ | refine TTle.leaf ?_ | exact AVle.junk _ | exact AVle.rfl' rfl | exact AVle.nilS | exact AVle.nilB)
          · repeat' (first | exact OOle.none _ _ | exact OOle.same _ | refine OOle.node ?_ ?_ | exact OOle.leaf _ | exact OOle.gone _)
      · refine FinC.te (y := .bool _) rfl rfl trivial (congrArg AV.bool (decide_eq_true ?_).symm)
        rw [List.take_of_length_le (by omega), List.take_of_length_le (by omega)] at h3
        exact h3

theorem p115 (a b c : List (List UInt8)) (ha : a.length ≤ 1000000000000) (hb : b.length ≤ 1000000000000) (hc : c.length ≤ 1000000000000) (h0 : 0 < (a.length : Int) + b.length + c.length) : Pure Try.prog 115 [.slG 1 [.slS a, .slS b, .slS c]] (.slS (a ++ b ++ c)) := (own115 a b c ha hb hc h0).toPure rfl
set_option maxRecDepth 10000 in
set_option maxHeartbeats 8000000 in
theorem p92 (ls old new : List (List UInt8)) (a : Int) (hl : ls.length ≤ 1000000000) (ho : old.length ≤ 1000000000) (hn : new.length ≤ 1000000000) : Pure Try.prog 92 [.slS ls, .agg [.int .i64 a, .slS old, .slS new]] (.tup [.slS (appL ls a old new), .bool (appOk ls a old new)]) := by
  have k114 := p114 (cutL ls (some a.toNat) (some (a + old.length).toNat)) old (by have := cutL_le ls (some a.toNat) (some (a + old.length).toNat); omega)
  have k115 : 0 ≤ a → a ≤ ls.length → (old.length : Int) ≤ ls.length - a → (ls.length : Int) - old.length + new.length ≠ 0 → Pure Try.prog 115 [.slG 1 [.slS (cutL ls none (some a.toNat)), .slS new, .slS (cutL ls (some (a + old.length).toNat) none)]] (.slS (cutL ls none (some a.toNat) ++ new ++ cutL ls (some (a + old.length).toNat) none)) := fun h1 h2 h3 h4 => by
    have e1 : (cutL ls none (some a.toNat)).length = a.toNat := by simp [cutL]; omega
    have e2 : (cutL ls (some (a + old.length).toNat) none).length = ls.length - (a + old.length).toNat := by simp [cutL]
    exact p115 _ _ _ (by omega) (by omega) (by omega) (by omega)
  refine Pure.ofT tab2_ok Try.func92 rfl rfl [.tmp 4, .tmp 5] rfl (by decide) rfl ⟨70, 7, (.node (.node (.node (.node (.node (.node (.node (.leaf (.slS ls)) (J 0)) (J 1)) (J 2)) (J 3)) (J 4)) (J 5)) (.node (.node (.node (.node (.node (.node (.leaf (.agg [.int .i64 a, .slS old, .slS new])) (J 0)) (J 1)) (J 2)) (J 3)) (J 4)) (J 5))), (OO 7)⟩ (by kernel_rfl) (by kernel_rfl) ?_
  repeat' (first
    | refine allProp_T ?_
    | exact trivial
    | (refine URun.id ?_; first
        | refine URun.nil ?_
        | refine URun.many tabs2 rfl rfl (by kernel_rfl) ?_ ?_
        | (refine URun.toCall 114 rfl ?_; first
          | refine URun.callB tabs2 rfl rfl rfl rfl k114 rfl rfl ?_ rfl rfl (fun h => ?_) (fun h => ?_))
        | (refine URun.toCall 115 rfl ?_; first
          | refine URun.call tabs2 rfl rfl rfl rfl (k115 (by omega) (by omega) (by omega) (by omega)) rfl rfl ?_ rfl ?_)
        | refine URun.same tabs2 rfl rfl rfl ?_
        | refine URun.same2 tabs2 rfl rfl rfl ?_
        | refine URun.split tabs2 rfl rfl rfl rfl (fun h => ?_) (fun h => ?_))
    | (refine TRun.id ?_; first
        | refine TRun.nil ?_
        | refine TRun.many rfl rfl (by kernel_rfl) ?_ ?_
        | (refine TRun.toCall 114 rfl ?_; first
          | refine TRun.callB rfl rfl rfl rfl k114 rfl rfl ?_ rfl rfl (fun h => ?_) (fun h => ?_))
        | (refine TRun.toCall 115 rfl ?_; first
          | refine TRun.call rfl rfl rfl rfl (k115 (by omega) (by omega) (by omega) (by omega)) rfl rfl ?_ rfl ?_)
        | refine TRun.same rfl rfl rfl ?_
        | refine TRun.same2 rfl rfl rfl ?_
        | refine TRun.split rfl rfl rfl rfl (fun h => ?_) (fun h => ?_))
    | (refine HoldsT.id ?_; first
        | refine HoldsT.seq ?_
        | refine HoldsT.regionU ?_
        | refine HoldsT.drawn tabs2 ?_
        | refine HoldsT.yes rfl ?_
        | refine HoldsT.no rfl ?_
        | refine HoldsT.cond rfl (fun h => ?_) (fun h => ?_)
        | refine HoldsT.block ?_
        | refine HoldsT.ret ?_
        | refine HoldsT.skip ?_
        | refine HoldsT.exit ?_)
    | (refine okTr_intro ?_; kernel_rfl)
    | exact absurd rfl h
    | exact rowGc rfl rfl rfl
    | refine allProp_C ?_ ?_
    | refine And.intro ?_ ?_
    | omega
    | (show _ < List.length _; omega)
    | exact rowlen_intro rfl
    | exact lenEq_intro rfl
    | exact Nat.le_of_ble_eq_true rfl
    | (simp only [AV.rowlenD, AV.rowlen, AV.ncells, mulSz, toN, Option.map_some, Option.map_none, cutL, List.length_take, List.length_drop, List.length_append, List.length_cons, List.length_nil, List.length_set, Option.some.injEq, Int.reduceToNat] <;> omega))
  all_goals first
    | exact FinC.t (y := .tup [.nilsl, .bool _]) rfl rfl ⟨trivial, trivial, trivial⟩ (appNo (decide_eq_false (fun hh => by omega)))
    | exact FinC.t (y := .tup [.nilsl, .bool _]) rfl rfl ⟨trivial, trivial, trivial⟩ (appNo (decide_eq_false (fun hh => (of_decide_eq_false h) hh.2.2.2.1)))
    | (have hm := of_decide_eq_true ‹decide (cutL ls (some a.toNat) (some (a + old.length).toNat) = old) = true›
       refine FinC.t (y := .tup [.slS _, .bool true]) rfl rfl ⟨trivial, trivial, trivial⟩ (appYes (decide_eq_true ⟨by omega, by omega, by omega, hm, by omega⟩)))

set_option maxRecDepth 10000 in
set_option maxHeartbeats 8000000 in
theorem p70 (ls old new : List (List UInt8)) (a : Int) (hl : ls.length ≤ 1000000000) (ho : old.length ≤ 1000000000) (hn : new.length ≤ 1000000000) : Pure Try.prog 70 [.slS ls, .slG 3 [.int .i64 a, .slS old, .slS new]] (.tup [.slS (appL ls a old new), .bool (appOk ls a old new)]) := by
  have k92 := p92 ls old new a hl ho hn
  have k66 := p66 ls (by omega)
  refine Pure.ofT tab2_ok Try.func70 rfl rfl [.tmp 4, .tmp 5] rfl (by decide) rfl ⟨30, 5, (.node (.node (.node (.node (.node (.leaf (.slS ls)) (J 0)) (J 1)) (J 2)) (J 3)) (.node (.node (.node (.node (.leaf (.slG 3 [.int .i64 a, .slS old, .slS new])) (J 0)) (J 1)) (J 2)) (J 3))), (OO 5)⟩ (by kernel_rfl) (by kernel_rfl) ?_
  repeat' (first
    | refine allProp_T ?_
    | exact trivial
    | (refine URun.id ?_; first
        | refine URun.nil ?_
        | refine URun.many tabs2 rfl rfl (by kernel_rfl) ?_ ?_
        | (refine URun.toCall 66 rfl ?_; first
          | refine URun.call tabs2 rfl rfl rfl rfl k66 rfl rfl ?_ rfl ?_)
        | (refine URun.toCall 92 rfl ?_; first
          | refine URun.call tabs2 rfl rfl rfl rfl k92 rfl rfl ?_ rfl ?_)
        | refine URun.same tabs2 rfl rfl rfl ?_
        | refine URun.same2 tabs2 rfl rfl rfl ?_
        | refine URun.yes tabs2 rfl rfl (d3a _ _ _) rfl ?_
        | refine URun.no tabs2 rfl rfl (d3a _ _ _) rfl ?_
        | refine URun.yes tabs2 rfl rfl (d3b _ _ _) rfl ?_
        | refine URun.no tabs2 rfl rfl (d3b _ _ _) rfl ?_
        | refine URun.split tabs2 rfl rfl rfl rfl (fun h => ?_) (fun h => ?_))
    | (refine TRun.id ?_; first
        | refine TRun.nil ?_
        | refine TRun.many rfl rfl (by kernel_rfl) ?_ ?_
        | (refine TRun.toCall 66 rfl ?_; first
          | refine TRun.call rfl rfl rfl rfl k66 rfl rfl ?_ rfl ?_)
        | (refine TRun.toCall 92 rfl ?_; first
          | refine TRun.call rfl rfl rfl rfl k92 rfl rfl ?_ rfl ?_)
        | refine TRun.same rfl rfl rfl ?_
        | refine TRun.same2 rfl rfl rfl ?_
        | refine TRun.yes rfl rfl (d3a _ _ _) rfl ?_
        | refine TRun.no rfl rfl (d3a _ _ _) rfl ?_
        | refine TRun.yes rfl rfl (d3b _ _ _) rfl ?_
        | refine TRun.no rfl rfl (d3b _ _ _) rfl ?_
        | refine TRun.split rfl rfl rfl rfl (fun h => ?_) (fun h => ?_))
    | (refine HoldsT.id ?_; first
        | refine HoldsT.seq ?_
        | refine HoldsT.regionU ?_
        | refine HoldsT.drawn tabs2 ?_
        | refine HoldsT.yes rfl ?_
        | refine HoldsT.no rfl ?_
        | refine HoldsT.cond rfl (fun h => ?_) (fun h => ?_)
        | refine HoldsT.block ?_
        | refine HoldsT.ret ?_
        | refine HoldsT.skip ?_
        | refine HoldsT.exit ?_)
    | refine HoldsT.rounds 2 ?_
    | refine HoldsT.round ?_
    | (refine okTr_intro ?_; kernel_rfl)
    | exact absurd rfl h
    | exact rowG3 _ _ _
    | refine allProp_C ?_ ?_
    | refine And.intro ?_ ?_
    | omega
    | (show _ < List.length _; omega)
    | exact rowlen_intro rfl
    | exact lenEq_intro rfl
    | exact Nat.le_of_ble_eq_true rfl
    | (simp only [AV.rowlenD, AV.rowlen, AV.ncells, mulSz, toN, Option.map_some, Option.map_none, cutL, List.length_take, List.length_drop, List.length_append, List.length_cons, List.length_nil, List.length_set, Option.some.injEq, Int.reduceToNat] <;> omega))
  · refine FinC.t (y := .tup [.nilsl, .bool _]) rfl rfl ⟨trivial, trivial, trivial⟩ (appNo ?_)
    simpa using h
  · have h' : appOk ls a old new = true := by simpa using h
    rw [h']
    exact FinC.te (y := .tup [.slS _, .bool _]) rfl rfl ⟨trivial, trivial, trivial⟩ rfl

end Go.Proofs.Ytefbgdnobnemkaa.AM
