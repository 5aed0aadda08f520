/-
  Letters that are typed.
-/
import Derived.Test.YtefbgdnobnemkaaF17
set_option linter.unusedSimpArgs false
set_option linter.unusedVariables false
set_option linter.unusedSectionVars false
namespace Go.Proofs.Ytefbgdnobnemkaa.AM
open Go Go.RowKit

theorem all_of {t : List UInt8} {i : Int} (h : ∀ k ∈ t.take i.toNat, letterK k.toNat = true) (hi : (t.length : Int) ≤ i) : ∀ k ∈ t, letterK k.toNat = true := by
  rwa [List.take_of_length_le (by omega)] at h
theorem all_more {t : List UInt8} {i : Int} (h : ∀ k ∈ t.take i.toNat, letterK k.toNat = true) (h0 : 0 ≤ i) (hi : i < t.length) (h1 : ¬ ((t.getD i.toNat 0).toNat : Int) < 32) (h2 : ¬ ((t.getD i.toNat 0).toNat : Int) = 127) : ∀ k ∈ t.take (i + 1).toNat, letterK k.toNat = true := by
  intro k hk
  have hlt : i.toNat < t.length := by omega
  rw [toNat_succ h0, List.take_add_one, List.getElem?_eq_getElem hlt, List.mem_append] at hk
  rcases hk with hk | hk
  · exact h k hk
  · have e : t.getD i.toNat 0 = t[i.toNat] := by simp [hlt]
    simp only [Option.toList_some, List.mem_singleton] at hk
    rw [hk, ← e]
    exact decide_eq_true (.inl ⟨by omega, by omega⟩)
theorem len_set_ne (ls : List (List UInt8)) (i : Nat) (x : List UInt8) : ¬ (((ls.set i x).length : Int) ≠ (ls.length : Int)) := by simp

def sh9 (ls : List (List UInt8)) (a b : Int) (t : List UInt8) (i : Int) : TS := ⟨97, 7, (.node (.node (.node (.node (.node (.node (.node (.leaf (.slS ls)) (J 0)) (J 1)) (J 2)) (.node (.node (.node (.leaf (.bool false)) (J 0)) (J 1)) (J 2))) (J 4)) (.node (.node (.node (.node (.node (.leaf (.int .u16 b)) (J 0)) (J 1)) (J 2)) (J 3)) (J 4))) (.node (.node (.node (.node (.node (.node (.leaf (.int .u16 a)) (J 0)) (J 1)) (J 2)) (.node (.node (.node (.leaf (.int .i64 i)) (J 0)) (J 1)) (J 2))) (J 4)) (.node (.node (.node (.node (.node (.leaf (.str t)) (J 0)) (J 1)) (J 2)) (J 3)) (J 4)))), (OO 7)⟩

section
variable (ls : List (List UInt8)) (a b : Int) (t : List UInt8) (hL : ls.length ≤ 140737488355328) (hB : ∀ n : Nat, (ls.getD n []).length ≤ 140737488355328)
include hL hB
set_option maxRecDepth 10000 in
set_option maxHeartbeats 8000000 in
theorem p9 (ht : t.length ≤ 140737488355328) (ha : inK .u16 a) (hb : inK .u16 b) : Pure Try.prog 9 [.slS ls, .int .u16 a, .int .u16 b, .str t] (.bool true) := by
  have k27 := p27 ls hL hB
  cases hok : (decide (0 < (ls.length : Int)) && lightL ls) with
  | false =>
    rw [hok] at k27
    refine Pure.ofT tab_ok Try.func9 rfl rfl [.tmp 8] rfl (by decide) rfl ⟨97, 7, (.node (.node (.node (.node (.node (.node (.node (.leaf (.slS ls)) (J 0)) (J 1)) (J 2)) (J 3)) (J 4)) (.node (.node (.node (.node (.node (.leaf (.int .u16 b)) (J 0)) (J 1)) (J 2)) (J 3)) (J 4))) (.node (.node (.node (.node (.node (.node (.leaf (.int .u16 a)) (J 0)) (J 1)) (J 2)) (J 3)) (J 4)) (.node (.node (.node (.node (.node (.leaf (.str t)) (J 0)) (J 1)) (J 2)) (J 3)) (J 4)))), (OO 7)⟩ (by kernel_rfl) (by kernel_rfl) ?_
    repeat' (first
      | refine allProp_T ?_
      | exact trivial
      | (refine URun.id ?_; first
          | refine URun.nil ?_
          | refine URun.many tabs rfl rfl (by kernel_rfl) ?_ ?_
          | (refine URun.toCall 34 rfl ?_; first
            | refine URun.call tabs rfl rfl rfl rfl p34 rfl rfl ?_ rfl ?_)
          | (refine URun.toCall 27 rfl ?_; first
            | refine URun.call tabs rfl rfl rfl rfl k27 rfl rfl ?_ rfl ?_)
          | refine URun.same tabs rfl rfl rfl ?_
          | refine URun.same2 tabs rfl rfl rfl ?_
          | refine URun.split tabs rfl rfl rfl rfl (fun h => ?_) (fun h => ?_))
      | (refine TRun.id ?_; first
          | refine TRun.nil ?_
          | refine TRun.many rfl rfl (by kernel_rfl) ?_ ?_
          | (refine TRun.toCall 34 rfl ?_; first
            | refine TRun.call rfl rfl rfl rfl p34 rfl rfl ?_ rfl ?_)
          | (refine TRun.toCall 27 rfl ?_; first
            | refine TRun.call rfl rfl rfl rfl k27 rfl rfl ?_ rfl ?_)
          | refine TRun.same rfl rfl rfl ?_
          | refine TRun.same2 rfl rfl rfl ?_
          | refine TRun.split rfl rfl rfl rfl (fun h => ?_) (fun h => ?_))
      | (refine HoldsT.id ?_; first
          | refine HoldsT.seq ?_
          | refine HoldsT.regionU ?_
          | refine HoldsT.drawn tabs ?_
          | refine HoldsT.yes rfl ?_
          | refine HoldsT.no rfl ?_
          | refine HoldsT.cond rfl (fun h => ?_) (fun h => ?_)
          | refine HoldsT.block ?_
          | refine HoldsT.ret ?_
          | refine HoldsT.skip ?_
          | refine HoldsT.exit ?_)
      | (refine okTr_intro ?_; kernel_rfl)
      | exact absurd rfl h
      | refine allProp_C ?_ ?_
      | refine And.intro ?_ ?_
      | omega
      | (show _ < List.length _; omega)
      | exact rowlen_intro rfl
      | exact lenEq_intro rfl
      | exact Nat.le_of_ble_eq_true rfl
      | (simp only [AV.rowlenD, AV.rowlen, AV.ncells, mulSz, toN, Option.map_some, Option.map_none, cutL, List.length_take, List.length_drop, List.length_append, List.length_cons, List.length_nil, List.length_set, Option.some.injEq, Int.reduceToNat] <;> omega))
    all_goals exact FinC.te (y := .bool true) rfl rfl trivial rfl
  | true =>
    rw [hok] at k27
    obtain ⟨h0, hl, hr⟩ := light_len hok
    have k28 := p28 ls a b h0 ha hb hB
    have hp := place_ok (ls := ls) h0 ha.1 hb.1
    generalize plL ls a = l at k28 hp
    generalize plC ls a b = c at k28 hp
    obtain ⟨hp1, hp2, hp3, hp4⟩ := place_of hp
    have hr1 := hr l.toNat
    have hlt : l.toNat < ls.length := by omega
    have k40 : t.length ≤ 60 → (∀ k ∈ t, letterK k.toNat = true) → Pure Try.prog 40 [.slS ls, .agg [.int .i64 l, .int .i64 c], .slB t] (.tup [.slS (ls.set l.toNat ((ls.getD l.toNat []).take c.toNat ++ t ++ (ls.getD l.toNat []).drop c.toNat)), .agg [.int .i64 l, .int .i64 (c + (t.length : Nat))], .bool true]) := fun h1 h2 => by
      have := p40 ls l c t (by omega) (fun n => by have := hr n; omega) (by omega)
      rwa [typed_all hp h2] at this
    have hfin : (ls.set l.toNat ((ls.getD l.toNat []).take c.toNat ++ t ++ (ls.getD l.toNat []).drop c.toNat)).getD l.toNat [] = cutL (ls.getD l.toNat []) none (some c.toNat) ++ t ++ cutL (ls.getD l.toNat []) (some c.toNat) none := getD_set_self hlt
    refine Pure.ofT tab_ok Try.func9 rfl rfl [.tmp 8] rfl (by decide) rfl ⟨97, 7, (.node (.node (.node (.node (.node (.node (.node (.leaf (.slS ls)) (J 0)) (J 1)) (J 2)) (J 3)) (J 4)) (.node (.node (.node (.node (.node (.leaf (.int .u16 b)) (J 0)) (J 1)) (J 2)) (J 3)) (J 4))) (.node (.node (.node (.node (.node (.node (.leaf (.int .u16 a)) (J 0)) (J 1)) (J 2)) (J 3)) (J 4)) (.node (.node (.node (.node (.node (.leaf (.str t)) (J 0)) (J 1)) (J 2)) (J 3)) (J 4)))), (OO 7)⟩ (by kernel_rfl) (by kernel_rfl) ?_
    repeat' (first
      | refine allProp_T ?_
      | exact trivial
      | (refine URun.id ?_; first
          | refine URun.nil ?_
          | refine URun.many tabs rfl rfl (by kernel_rfl) ?_ ?_
          | (refine URun.toCall 34 rfl ?_; first
            | refine URun.call tabs rfl rfl rfl rfl p34 rfl rfl ?_ rfl ?_)
          | (refine URun.toCall 27 rfl ?_; first
            | refine URun.call tabs rfl rfl rfl rfl k27 rfl rfl ?_ rfl ?_)
          | refine URun.same tabs rfl rfl rfl ?_
          | refine URun.same2 tabs rfl rfl rfl ?_
          | refine URun.split tabs rfl rfl rfl rfl (fun h => ?_) (fun h => ?_))
      | (refine TRun.id ?_; first
          | refine TRun.nil ?_
          | refine TRun.many rfl rfl (by kernel_rfl) ?_ ?_
          | (refine TRun.toCall 34 rfl ?_; first
            | refine TRun.call rfl rfl rfl rfl p34 rfl rfl ?_ rfl ?_)
          | (refine TRun.toCall 27 rfl ?_; first
            | refine TRun.call rfl rfl rfl rfl k27 rfl rfl ?_ rfl ?_)
          | refine TRun.same rfl rfl rfl ?_
          | refine TRun.same2 rfl rfl rfl ?_
          | refine TRun.split rfl rfl rfl rfl (fun h => ?_) (fun h => ?_))
      | (refine HoldsT.id ?_; first
          | refine HoldsT.seq ?_
          | refine HoldsT.regionU ?_
          | refine HoldsT.drawn tabs ?_
          | refine HoldsT.yes rfl ?_
          | refine HoldsT.no rfl ?_
          | refine HoldsT.cond rfl (fun h => ?_) (fun h => ?_)
          | refine HoldsT.block ?_
          | refine HoldsT.ret ?_
          | refine HoldsT.skip ?_
          | refine HoldsT.exit ?_)
      | (refine okTr_intro ?_; kernel_rfl)
      | exact absurd rfl h
      | refine allProp_C ?_ ?_
      | refine And.intro ?_ ?_
      | omega
      | (show _ < List.length _; omega)
      | exact rowlen_intro rfl
      | exact lenEq_intro rfl
      | exact Nat.le_of_ble_eq_true rfl
      | (simp only [AV.rowlenD, AV.rowlen, AV.ncells, mulSz, toN, Option.map_some, Option.map_none, cutL, List.length_take, List.length_drop, List.length_append, List.length_cons, List.length_nil, List.length_set, Option.some.injEq, Int.reduceToNat] <;> omega))
    · exact FinC.te (y := .bool true) rfl rfl trivial rfl
    · have ht' : t.length ≤ 60 := by omega
      refine HoldsT.loop (fun i : Int => sh9 ls a b t i) (fun i => (t.length - i).toNat) (fun i => 0 ≤ i ∧ i ≤ t.length ∧ ∀ k ∈ t.take i.toNat, letterK k.toNat = true) 0 ?_ ?_ (fun _ => by kernel_rfl) ?_
      · refine WeakT.of ?_ ?_ (by kernel_rfl)
        · repeat' (first | exact TTle.junk _ _ | exact TTle.same _ | refine TTle.node ?_ ?_ | refine TTle.leaf ?_ | exact AVle.junk _ | exact AVle.rfl' rfl | exact AVle.nilS | exact AVle.nilB)
        · repeat' (first | exact OOle.none _ _ | exact OOle.same _ | refine OOle.node ?_ ?_ | exact OOle.leaf _ | exact OOle.gone _)
      · exact ⟨by simp, by simp, fun k hk => by simp at hk⟩
      · intro i hi
        obtain ⟨h1, h2, h3⟩ := hi
        show HoldsT Try.prog _ (sh9 ls a b t i) _
        repeat' (first
          | refine allProp_T ?_
          | exact trivial
          | (refine URun.id ?_; first
              | refine URun.nil ?_
              | refine URun.many tabs rfl rfl (by kernel_rfl) ?_ ?_
              | (refine URun.toCall 28 rfl ?_; first
                | refine URun.call tabs rfl rfl rfl rfl k28 rfl rfl ?_ rfl ?_)
              | (refine URun.toCall 40 rfl ?_; first
                | refine URun.call tabs rfl rfl rfl rfl (k40 ht' (all_of h3 (by omega))) rfl rfl ?_ rfl ?_)
              | refine URun.same tabs rfl rfl rfl ?_
              | refine URun.same2 tabs rfl rfl rfl ?_
              | refine URun.yes tabs rfl rfl (fun h => h rfl) rfl ?_
              | refine URun.no tabs rfl rfl (fun h => h rfl) rfl ?_
              | refine URun.yes tabs rfl rfl (fun h => h ⟨rfl, rfl⟩) rfl ?_
              | refine URun.no tabs rfl rfl (fun h => h ⟨rfl, rfl⟩) rfl ?_
              | refine URun.yes tabs rfl rfl (len_set_ne _ _ _) rfl ?_
              | refine URun.no tabs rfl rfl (len_set_ne _ _ _) rfl ?_
              | refine URun.yes tabs rfl rfl hfin rfl ?_
              | refine URun.no tabs rfl rfl hfin rfl ?_
              | refine URun.split tabs rfl rfl rfl rfl (fun h => ?_) (fun h => ?_))
          | (refine TRun.id ?_; first
              | refine TRun.nil ?_
              | refine TRun.many rfl rfl (by kernel_rfl) ?_ ?_
              | (refine TRun.toCall 28 rfl ?_; first
                | refine TRun.call rfl rfl rfl rfl k28 rfl rfl ?_ rfl ?_)
              | (refine TRun.toCall 40 rfl ?_; first
                | refine TRun.call rfl rfl rfl rfl (k40 ht' (all_of h3 (by omega))) rfl rfl ?_ rfl ?_)
              | refine TRun.same rfl rfl rfl ?_
              | refine TRun.same2 rfl rfl rfl ?_
              | refine TRun.yes rfl rfl (fun h => h rfl) rfl ?_
              | refine TRun.no rfl rfl (fun h => h rfl) rfl ?_
              | refine TRun.yes rfl rfl (fun h => h ⟨rfl, rfl⟩) rfl ?_
              | refine TRun.no rfl rfl (fun h => h ⟨rfl, rfl⟩) rfl ?_
              | refine TRun.yes rfl rfl (len_set_ne _ _ _) rfl ?_
              | refine TRun.no rfl rfl (len_set_ne _ _ _) rfl ?_
              | refine TRun.yes rfl rfl hfin rfl ?_
              | refine TRun.no rfl rfl hfin rfl ?_
              | refine TRun.split rfl rfl rfl rfl (fun h => ?_) (fun h => ?_))
          | (refine HoldsT.id ?_; first
              | refine HoldsT.seq ?_
              | refine HoldsT.regionU ?_
              | refine HoldsT.drawn tabs ?_
              | refine HoldsT.yes rfl ?_
              | refine HoldsT.no rfl ?_
              | refine HoldsT.cond rfl (fun h => ?_) (fun h => ?_)
              | refine HoldsT.block ?_
              | refine HoldsT.ret ?_
              | refine HoldsT.skip ?_
              | refine HoldsT.exit ?_)
          | (refine okTr_intro ?_; kernel_rfl)
          | exact absurd rfl h
          | refine allProp_C ?_ ?_
          | refine And.intro ?_ ?_
          | omega
          | (show _ < List.length _; omega)
          | exact rowlen_intro rfl
          | exact lenEq_intro rfl
          | exact Nat.le_of_ble_eq_true rfl
          | (simp only [AV.rowlenD, AV.rowlen, AV.ncells, mulSz, toN, Option.map_some, Option.map_none, cutL, List.length_take, List.length_drop, List.length_append, List.length_cons, List.length_nil, List.length_set, Option.some.injEq, Int.reduceToNat] <;> omega))
        · exact FinC.te (y := .bool true) rfl rfl trivial rfl
        · exact FinC.te (y := .bool true) rfl rfl trivial rfl
        · refine ⟨i + 1, ⟨by omega, by omega, by omega, all_more h3 h1 (by omega) (by assumption) h⟩, ?_⟩
          refine WeakT.of ?_ ?_ (by kernel_rfl)
          · repeat' (first | exact TTle.junk _ _ | exact TTle.same _ | refine TTle.node ?_ ?_ | refine TTle.leaf ?_ | exact AVle.junk _ | exact AVle.rfl' rfl | exact AVle.nilS | exact AVle.nilB)
          · repeat' (first | exact OOle.none _ _ | exact OOle.same _ | refine OOle.node ?_ ?_ | exact OOle.leaf _ | exact OOle.gone _)
        · exact FinC.te (y := .bool true) rfl rfl trivial rfl
end

end Go.Proofs.Ytefbgdnobnemkaa.AM
