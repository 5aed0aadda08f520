/-
  Lines that are joined: the law.
-/
import Derived.Test.YtefbgdnobnemkaaDoorD4
set_option linter.unusedSimpArgs false
set_option linter.unusedVariables false
set_option linter.unusedSectionVars false
namespace Go.Proofs.YtefbgdnobnemkaaDoor.AM
open Go Go.RowKit

def sh4a (ls : List (List UInt8)) (l p n y : Int) : TS := ⟨71, 7, (.node (.node (.node (.node (.node (.node (.node (.leaf (.slS ls)) (J 0)) (J 1)) (J 2)) (J 3)) (.node (J 3) (.node (J 2) (.node (.node (.leaf (.int .i64 2)) (J 0)) (J 1))))) (.node (.node (.node (.node (.node (.leaf (.int .i64 n)) (J 0)) (J 1)) (J 2)) (J 3)) (J 4))) (.node (.node (J 4) (.node (J 3) (.node (J 2) (.node (.node (.leaf (.int .i64 y)) (J 0)) (J 1))))) (.node (.node (J 3) (.node (J 2) (.node (.node (.leaf (.own 27 2)) (J 0)) (J 1)))) (J 4)))), (.node (OO 6) (.node (OO 5) (.node (.node (OO 3) (.node (OO 2) (.node (.node (.leaf (some ⟨true, true, .slG 1 [.int .i64 l, .int .i64 p], 3⟩)) (OO 0)) (OO 1)))) (OO 4))))⟩
def sh4b (ls : List (List UInt8)) (l p n y m z : Int) : TS := ⟨71, 7, (.node (.node (.node (.node (.node (.node (.node (.leaf (.slS ls)) (J 0)) (J 1)) (J 2)) (.node (.node (.node (.leaf (.int .i64 m)) (J 0)) (J 1)) (J 2))) (.node (.node (.node (J 1) (.node (.leaf (.own 36 3)) (J 0))) (J 2)) (.node (J 2) (.node (.node (.leaf (.int .i64 2)) (J 0)) (J 1))))) (.node (.node (.node (.node (.node (.leaf (.int .i64 n)) (J 0)) (J 1)) (J 2)) (J 3)) (.node (.node (.node (J 1) (.node (.leaf (.int .i64 z)) (J 0))) (J 2)) (J 3)))) (.node (.node (J 4) (.node (.node (.node (J 1) (.node (.leaf (.int .i64 3)) (J 0))) (J 2)) (.node (J 2) (.node (.node (.leaf (.int .i64 y)) (J 0)) (J 1))))) (.node (.node (J 3) (.node (J 2) (.node (.node (.leaf (.own 27 2)) (J 0)) (J 1)))) (J 4)))), (.node (.node (.node (OO 4) (.node (.node (.node (OO 1) (.node (.leaf (some ⟨true, true, .slG 1 [.int .i64 n, .int .i64 (n.tmod 6), .int .i64 2], 3⟩)) (OO 0))) (OO 2)) (OO 3))) (OO 5)) (.node (OO 5) (.node (.node (OO 3) (.node (OO 2) (.node (.node (.leaf (some ⟨true, true, .slG 1 [.int .i64 l, .int .i64 p], 3⟩)) (OO 0)) (OO 1)))) (OO 4))))⟩
set_option maxRecDepth 10000 in
set_option maxHeartbeats 8000000 in
theorem q4 (ls : List (List UInt8)) (l n : Int) (hL : ls.length ≤ 140737488355328) (hB : ∀ n : Nat, (ls.getD n []).length ≤ 140737488355328) (hl : inK .i64 l) (hn : inK .i64 n) : Pure Tryd.prog 4 [.slS ls, .int .i64 l, .int .i64 n] (.bool true) := by
  have k27 := p27 ls hL hB
  cases hok : (decide (0 < (ls.length : Int)) && lightL ls) with
  | false =>
    rw [hok] at k27
    refine Pure.ofT tab2_ok Tryd.func4 rfl rfl [.tmp 6] rfl (by decide) rfl ⟨71, 7, (.node (.node (.node (.node (.node (.node (.node (.leaf (.slS ls)) (J 0)) (J 1)) (J 2)) (J 3)) (J 4)) (.node (.node (.node (.node (.node (.leaf (.int .i64 n)) (J 0)) (J 1)) (J 2)) (J 3)) (J 4))) (.node (.node (.node (.node (.node (.node (.leaf (.int .i64 l)) (J 0)) (J 1)) (J 2)) (J 3)) (J 4)) (J 5))), (OO 7)⟩ (by kernel_rfl) (by kernel_rfl) ?_
    repeat' (first
      | refine allProp_T ?_
      | exact trivial
      | (refine URun.id ?_; first
          | refine URun.nil ?_
          | refine URun.many tabs2 rfl rfl (by kernel_rfl) ?_ ?_
          | (refine URun.toCall 9 rfl ?_; first
            | refine URun.call tabs2 rfl rfl rfl rfl q9 rfl rfl ?_ rfl ?_)
          | (refine URun.toCall 10 rfl ?_; first
            | refine URun.call tabs2 rfl rfl rfl rfl k27 rfl rfl ?_ rfl ?_)
          | refine URun.same tabs2 rfl rfl rfl ?_
          | refine URun.same2 tabs2 rfl rfl rfl ?_
          | refine URun.split tabs2 rfl rfl rfl rfl (fun h => ?_) (fun h => ?_))
      | (refine TRun.id ?_; first
          | refine TRun.nil ?_
          | refine TRun.many rfl rfl (by kernel_rfl) ?_ ?_
          | (refine TRun.toCall 9 rfl ?_; first
            | refine TRun.call rfl rfl rfl rfl q9 rfl rfl ?_ rfl ?_)
          | (refine TRun.toCall 10 rfl ?_; first
            | refine TRun.call rfl rfl rfl rfl k27 rfl rfl ?_ rfl ?_)
          | refine TRun.same rfl rfl rfl ?_
          | refine TRun.same2 rfl rfl rfl ?_
          | refine TRun.split rfl rfl rfl rfl (fun h => ?_) (fun h => ?_))
      | (refine HoldsT.id ?_; first
          | refine HoldsT.seq ?_
          | refine HoldsT.regionU ?_
          | refine HoldsT.drawn tabs2 ?_
          | refine HoldsT.yes rfl ?_
          | refine HoldsT.no rfl ?_
          | refine HoldsT.cond rfl (fun h => ?_) (fun h => ?_)
          | refine HoldsT.block ?_
          | refine HoldsT.ret ?_
          | refine HoldsT.skip ?_
          | refine HoldsT.exit ?_)
      | (refine okTr_intro ?_; kernel_rfl)
      | exact absurd rfl h
      | refine allProp_C ?_ ?_
      | refine And.intro ?_ ?_
      | omega
      | (show _ < List.length _; omega)
      | exact rowlen_intro rfl
      | exact lenEq_intro rfl
      | exact Nat.le_of_ble_eq_true rfl
      | (simp only [AV.rowlenD, AV.rowlen, AV.ncells, mulSz, toN, Option.map_some, Option.map_none, cutL, List.length_take, List.length_drop, List.length_append, List.length_cons, List.length_nil, List.length_set, Option.some.injEq, Int.reduceToNat] <;> omega))
    all_goals exact FinC.te (y := .bool true) rfl rfl trivial rfl
  | true =>
    rw [hok] at k27
    obtain ⟨h0, hll, hr⟩ := light_len hok
    have k42 := p42 l ls.length hl (by omega)
    generalize (if l.tmod ls.length < 0 then l.tmod ls.length + ls.length else l.tmod ls.length) = p at *
    have k19 := fun l n => q19 ls l n (by omega) (fun n => by have := hr n; omega)
    have k20 := fun l n => q20 ls l n (by omega) (fun n => by have := hr n; omega)
    have k15 : ∀ l n, Pure Tryd.prog 15 [.agg [.int .i64 (joinR ls l n).at', .slS (joinR ls l n).old, .slS (joinR ls l n).new], .bool (joinR ls l n).ok, .agg [.int .i64 (joinR ls l n).at', .slS (joinR ls l n).old, .slS (joinR ls l n).new], .bool (joinR ls l n).ok] (.bool true) := fun l n => by
      have hb := join_len ls l n
      exact q15 _ _ _ _ _ _ _ _ (by omega) (by omega) ⟨rfl, rfl, rfl, rfl⟩
    have h6 : inK .i64 (n.tmod 6) := by
      have h1 := Int.tmod_lt_of_pos n (show (0 : Int) < 6 by omega)
      have h2 := Int.lt_tmod_of_pos n (show (0 : Int) < 6 by omega)
      exact ⟨by omega, by omega⟩
    refine Pure.ofT tab2_ok Tryd.func4 rfl rfl [.tmp 6] rfl (by decide) rfl ⟨71, 7, (.node (.node (.node (.node (.node (.node (.node (.leaf (.slS ls)) (J 0)) (J 1)) (J 2)) (J 3)) (J 4)) (.node (.node (.node (.node (.node (.leaf (.int .i64 n)) (J 0)) (J 1)) (J 2)) (J 3)) (J 4))) (.node (.node (.node (.node (.node (.node (.leaf (.int .i64 l)) (J 0)) (J 1)) (J 2)) (J 3)) (J 4)) (J 5))), (OO 7)⟩ (by kernel_rfl) (by kernel_rfl) ?_
    repeat' (first
      | refine allProp_T ?_
      | exact trivial
      | (refine URun.id ?_; first
          | refine URun.nil ?_
          | refine URun.many tabs2 rfl rfl (by kernel_rfl) ?_ ?_
          | (refine URun.toCall 9 rfl ?_; first
            | refine URun.call tabs2 rfl rfl rfl rfl q9 rfl rfl ?_ rfl ?_)
          | (refine URun.toCall 10 rfl ?_; first
            | refine URun.call tabs2 rfl rfl rfl rfl k27 rfl rfl ?_ rfl ?_)
          | (refine URun.toCall 18 rfl ?_; first
            | refine URun.call tabs2 rfl rfl rfl rfl k42 rfl rfl ?_ rfl ?_)
          | refine URun.same tabs2 rfl rfl rfl ?_
          | refine URun.same2 tabs2 rfl rfl rfl ?_
          | refine URun.split tabs2 rfl rfl rfl rfl (fun h => ?_) (fun h => ?_))
      | (refine TRun.id ?_; first
          | refine TRun.nil ?_
          | refine TRun.many rfl rfl (by kernel_rfl) ?_ ?_
          | (refine TRun.toCall 9 rfl ?_; first
            | refine TRun.call rfl rfl rfl rfl q9 rfl rfl ?_ rfl ?_)
          | (refine TRun.toCall 10 rfl ?_; first
            | refine TRun.call rfl rfl rfl rfl k27 rfl rfl ?_ rfl ?_)
          | (refine TRun.toCall 18 rfl ?_; first
            | refine TRun.call rfl rfl rfl rfl k42 rfl rfl ?_ rfl ?_)
          | refine TRun.same rfl rfl rfl ?_
          | refine TRun.same2 rfl rfl rfl ?_
          | refine TRun.split rfl rfl rfl rfl (fun h => ?_) (fun h => ?_))
      | (refine HoldsT.id ?_; first
          | refine HoldsT.seq ?_
          | refine HoldsT.regionU ?_
          | refine HoldsT.drawn tabs2 ?_
          | refine HoldsT.yes rfl ?_
          | refine HoldsT.no rfl ?_
          | refine HoldsT.cond rfl (fun h => ?_) (fun h => ?_)
          | refine HoldsT.block ?_
          | refine HoldsT.ret ?_
          | refine HoldsT.skip ?_
          | refine HoldsT.exit ?_)
      | (refine okTr_intro ?_; kernel_rfl)
      | exact absurd rfl h
      | exact rowN rfl rfl rfl
      | refine allProp_C ?_ ?_
      | refine And.intro ?_ ?_
      | omega
      | (show _ < List.length _; omega)
      | exact rowlen_intro rfl
      | exact lenEq_intro rfl
      | exact Nat.le_of_ble_eq_true rfl
      | (simp only [AV.rowlenD, AV.rowlen, AV.ncells, mulSz, toN, Option.map_some, Option.map_none, cutL, List.length_take, List.length_drop, List.length_append, List.length_cons, List.length_nil, List.length_set, Option.some.injEq, Int.reduceToNat] <;> omega))
    refine HoldsT.loop (fun y : Int => sh4a ls l p n y) (fun y => (2 - y).toNat) (fun y => y = 0 ∨ y = 1 ∨ y = 2) 0 ?_ (.inl rfl) (fun _ => by kernel_rfl) ?_
    · refine WeakT.of ?_ ?_ (by kernel_rfl)
      · repeat' (first | exact TTle.junk _ _ | exact TTle.same _ | refine TTle.node ?_ ?_ | refine TTle.leaf ?_ | exact AVle.junk _ | exact AVle.rfl' rfl | exact AVle.nilS | exact AVle.nilB)
      · repeat' (first | exact OOle.none _ _ | exact OOle.same _ | refine OOle.node ?_ ?_ | exact OOle.leaf _ | exact OOle.gone _)
    intro y hy
    rcases hy with rfl | rfl | rfl
    · show HoldsT Tryd.prog _ (sh4a ls l p n 0) _
      repeat' (first
        | refine allProp_T ?_
        | exact trivial
        | (refine URun.id ?_; first
            | refine URun.nil ?_
            | refine URun.many tabs2 rfl rfl (by kernel_rfl) ?_ ?_
            | (refine URun.toCall 19 rfl ?_; first
              | refine URun.call tabs2 rfl rfl rfl rfl (k19 _ _) rfl rfl ?_ rfl ?_)
            | (refine URun.toCall 20 rfl ?_; first
              | refine URun.call tabs2 rfl rfl rfl rfl (k20 _ _) rfl rfl ?_ rfl ?_)
            | (refine URun.toCall 15 rfl ?_; first
              | refine URun.call tabs2 rfl rfl rfl rfl (k15 _ _) rfl rfl ?_ rfl ?_)
            | refine URun.same tabs2 rfl rfl rfl ?_
            | refine URun.same2 tabs2 rfl rfl rfl ?_
            | refine URun.yes tabs2 rfl rfl (by decide) rfl ?_
            | refine URun.no tabs2 rfl rfl (by decide) rfl ?_
            | refine URun.yes tabs2 rfl rfl (fun h => h rfl) rfl ?_
            | refine URun.no tabs2 rfl rfl (fun h => h rfl) rfl ?_
            | refine URun.yes tabs2 rfl rfl rfl rfl ?_
            | refine URun.no tabs2 rfl rfl rfl rfl ?_
            | refine URun.split tabs2 rfl rfl rfl rfl (fun h => ?_) (fun h => ?_))
        | (refine TRun.id ?_; first
            | refine TRun.nil ?_
            | refine TRun.many rfl rfl (by kernel_rfl) ?_ ?_
            | (refine TRun.toCall 19 rfl ?_; first
              | refine TRun.call rfl rfl rfl rfl (k19 _ _) rfl rfl ?_ rfl ?_)
            | (refine TRun.toCall 20 rfl ?_; first
              | refine TRun.call rfl rfl rfl rfl (k20 _ _) rfl rfl ?_ rfl ?_)
            | (refine TRun.toCall 15 rfl ?_; first
              | refine TRun.call rfl rfl rfl rfl (k15 _ _) rfl rfl ?_ rfl ?_)
            | refine TRun.same rfl rfl rfl ?_
            | refine TRun.same2 rfl rfl rfl ?_
            | refine TRun.yes rfl rfl (by decide) rfl ?_
            | refine TRun.no rfl rfl (by decide) rfl ?_
            | refine TRun.yes rfl rfl (fun h => h rfl) rfl ?_
            | refine TRun.no rfl rfl (fun h => h rfl) rfl ?_
            | refine TRun.yes rfl rfl rfl rfl ?_
            | refine TRun.no rfl rfl rfl rfl ?_
            | refine TRun.split rfl rfl rfl rfl (fun h => ?_) (fun h => ?_))
        | (refine HoldsT.id ?_; first
            | refine HoldsT.seq ?_
            | refine HoldsT.regionU ?_
            | refine HoldsT.drawn tabs2 ?_
            | refine HoldsT.yes rfl ?_
            | refine HoldsT.no rfl ?_
            | refine HoldsT.cond rfl (fun h => ?_) (fun h => ?_)
            | refine HoldsT.block ?_
            | refine HoldsT.ret ?_
            | refine HoldsT.skip ?_
            | refine HoldsT.exit ?_)
        | (refine okTr_intro ?_; kernel_rfl)
        | exact absurd rfl h
        | exact rowN rfl rfl rfl
        | refine allProp_C ?_ ?_
        | refine And.intro ?_ ?_
        | omega
        | (show _ < List.length _; omega)
        | exact rowlen_intro rfl
        | exact lenEq_intro rfl
        | exact Nat.le_of_ble_eq_true rfl
        | (simp only [AV.rowlenD, AV.rowlen, AV.ncells, mulSz, toN, Option.map_some, Option.map_none, cutL, List.length_take, List.length_drop, List.length_append, List.length_cons, List.length_nil, List.length_set, Option.some.injEq, Int.reduceToNat] <;> omega))
      · refine HoldsT.loop (fun z : Int => sh4b ls l p n 0 l z) (fun z => (3 - z).toNat) (fun z => z = 0 ∨ z = 1 ∨ z = 2 ∨ z = 3) 0 ?_ (.inl rfl) (fun _ => by kernel_rfl) ?_
        · refine WeakT.of ?_ ?_ (by kernel_rfl)
          · repeat' (first | exact TTle.junk _ _ | exact TTle.same _ | refine TTle.node ?_ ?_ | refine TTle.leaf ?_ | exact AVle.junk _ | exact AVle.rfl' rfl | exact AVle.nilS | exact AVle.nilB)
          · repeat' (first | exact OOle.none _ _ | exact OOle.same _ | refine OOle.node ?_ ?_ | exact OOle.leaf _ | exact OOle.gone _)
        · intro z hz
          rcases hz with rfl | rfl | rfl | rfl
          · show HoldsT Tryd.prog _ (sh4b ls l p n 0 l 0) _
            repeat' (first
              | refine allProp_T ?_
              | exact trivial
              | (refine URun.id ?_; first
                  | refine URun.nil ?_
                  | refine URun.many tabs2 rfl rfl (by kernel_rfl) ?_ ?_
                  | (refine URun.toCall 19 rfl ?_; first
                    | refine URun.call tabs2 rfl rfl rfl rfl (k19 _ _) rfl rfl ?_ rfl ?_)
                  | (refine URun.toCall 20 rfl ?_; first
                    | refine URun.call tabs2 rfl rfl rfl rfl (k20 _ _) rfl rfl ?_ rfl ?_)
                  | (refine URun.toCall 15 rfl ?_; first
                    | refine URun.call tabs2 rfl rfl rfl rfl (k15 _ _) rfl rfl ?_ rfl ?_)
                  | refine URun.same tabs2 rfl rfl rfl ?_
                  | refine URun.same2 tabs2 rfl rfl rfl ?_
                  | refine URun.yes tabs2 rfl rfl (by decide) rfl ?_
                  | refine URun.no tabs2 rfl rfl (by decide) rfl ?_
                  | refine URun.yes tabs2 rfl rfl (fun h => h rfl) rfl ?_
                  | refine URun.no tabs2 rfl rfl (fun h => h rfl) rfl ?_
                  | refine URun.yes tabs2 rfl rfl rfl rfl ?_
                  | refine URun.no tabs2 rfl rfl rfl rfl ?_
                  | refine URun.split tabs2 rfl rfl rfl rfl (fun h => ?_) (fun h => ?_))
              | (refine TRun.id ?_; first
                  | refine TRun.nil ?_
                  | refine TRun.many rfl rfl (by kernel_rfl) ?_ ?_
                  | (refine TRun.toCall 19 rfl ?_; first
                    | refine TRun.call rfl rfl rfl rfl (k19 _ _) rfl rfl ?_ rfl ?_)
                  | (refine TRun.toCall 20 rfl ?_; first
                    | refine TRun.call rfl rfl rfl rfl (k20 _ _) rfl rfl ?_ rfl ?_)
                  | (refine TRun.toCall 15 rfl ?_; first
                    | refine TRun.call rfl rfl rfl rfl (k15 _ _) rfl rfl ?_ rfl ?_)
                  | refine TRun.same rfl rfl rfl ?_
                  | refine TRun.same2 rfl rfl rfl ?_
                  | refine TRun.yes rfl rfl (by decide) rfl ?_
                  | refine TRun.no rfl rfl (by decide) rfl ?_
                  | refine TRun.yes rfl rfl (fun h => h rfl) rfl ?_
                  | refine TRun.no rfl rfl (fun h => h rfl) rfl ?_
                  | refine TRun.yes rfl rfl rfl rfl ?_
                  | refine TRun.no rfl rfl rfl rfl ?_
                  | refine TRun.split rfl rfl rfl rfl (fun h => ?_) (fun h => ?_))
              | (refine HoldsT.id ?_; first
                  | refine HoldsT.seq ?_
                  | refine HoldsT.regionU ?_
                  | refine HoldsT.drawn tabs2 ?_
                  | refine HoldsT.yes rfl ?_
                  | refine HoldsT.no rfl ?_
                  | refine HoldsT.cond rfl (fun h => ?_) (fun h => ?_)
                  | refine HoldsT.block ?_
                  | refine HoldsT.ret ?_
                  | refine HoldsT.skip ?_
                  | refine HoldsT.exit ?_)
              | (refine okTr_intro ?_; kernel_rfl)
              | exact absurd rfl h
              | exact rowN rfl rfl rfl
              | refine allProp_C ?_ ?_
              | refine And.intro ?_ ?_
              | omega
              | (show _ < List.length _; omega)
              | exact rowlen_intro rfl
              | exact lenEq_intro rfl
              | exact Nat.le_of_ble_eq_true rfl
              | (simp only [AV.rowlenD, AV.rowlen, AV.ncells, mulSz, toN, Option.map_some, Option.map_none, cutL, List.length_take, List.length_drop, List.length_append, List.length_cons, List.length_nil, List.length_set, Option.some.injEq, Int.reduceToNat] <;> omega))
            · refine ⟨1, ⟨by decide, by decide⟩, ?_⟩
              refine WeakT.of ?_ ?_ (by kernel_rfl)
              · repeat' (first | exact TTle.junk _ _ | exact TTle.same _ | refine TTle.node ?_ ?_ | refine TTle.leaf ?_ | exact AVle.junk _ | exact AVle.rfl' rfl | exact AVle.nilS | exact AVle.nilB)
              · repeat' (first | exact OOle.none _ _ | exact OOle.same _ | refine OOle.node ?_ ?_ | exact OOle.leaf _ | exact OOle.gone _)
          · show HoldsT Tryd.prog _ (sh4b ls l p n 0 l 1) _
            repeat' (first
              | refine allProp_T ?_
              | exact trivial
              | (refine URun.id ?_; first
                  | refine URun.nil ?_
                  | refine URun.many tabs2 rfl rfl (by kernel_rfl) ?_ ?_
                  | (refine URun.toCall 19 rfl ?_; first
                    | refine URun.call tabs2 rfl rfl rfl rfl (k19 _ _) rfl rfl ?_ rfl ?_)
                  | (refine URun.toCall 20 rfl ?_; first
                    | refine URun.call tabs2 rfl rfl rfl rfl (k20 _ _) rfl rfl ?_ rfl ?_)
                  | (refine URun.toCall 15 rfl ?_; first
                    | refine URun.call tabs2 rfl rfl rfl rfl (k15 _ _) rfl rfl ?_ rfl ?_)
                  | refine URun.same tabs2 rfl rfl rfl ?_
                  | refine URun.same2 tabs2 rfl rfl rfl ?_
                  | refine URun.yes tabs2 rfl rfl (by decide) rfl ?_
                  | refine URun.no tabs2 rfl rfl (by decide) rfl ?_
                  | refine URun.yes tabs2 rfl rfl (fun h => h rfl) rfl ?_
                  | refine URun.no tabs2 rfl rfl (fun h => h rfl) rfl ?_
                  | refine URun.yes tabs2 rfl rfl rfl rfl ?_
                  | refine URun.no tabs2 rfl rfl rfl rfl ?_
                  | refine URun.split tabs2 rfl rfl rfl rfl (fun h => ?_) (fun h => ?_))
              | (refine TRun.id ?_; first
                  | refine TRun.nil ?_
                  | refine TRun.many rfl rfl (by kernel_rfl) ?_ ?_
                  | (refine TRun.toCall 19 rfl ?_; first
                    | refine TRun.call rfl rfl rfl rfl (k19 _ _) rfl rfl ?_ rfl ?_)
                  | (refine TRun.toCall 20 rfl ?_; first
                    | refine TRun.call rfl rfl rfl rfl (k20 _ _) rfl rfl ?_ rfl ?_)
                  | (refine TRun.toCall 15 rfl ?_; first
                    | refine TRun.call rfl rfl rfl rfl (k15 _ _) rfl rfl ?_ rfl ?_)
                  | refine TRun.same rfl rfl rfl ?_
                  | refine TRun.same2 rfl rfl rfl ?_
                  | refine TRun.yes rfl rfl (by decide) rfl ?_
                  | refine TRun.no rfl rfl (by decide) rfl ?_
                  | refine TRun.yes rfl rfl (fun h => h rfl) rfl ?_
                  | refine TRun.no rfl rfl (fun h => h rfl) rfl ?_
                  | refine TRun.yes rfl rfl rfl rfl ?_
                  | refine TRun.no rfl rfl rfl rfl ?_
                  | refine TRun.split rfl rfl rfl rfl (fun h => ?_) (fun h => ?_))
              | (refine HoldsT.id ?_; first
                  | refine HoldsT.seq ?_
                  | refine HoldsT.regionU ?_
                  | refine HoldsT.drawn tabs2 ?_
                  | refine HoldsT.yes rfl ?_
                  | refine HoldsT.no rfl ?_
                  | refine HoldsT.cond rfl (fun h => ?_) (fun h => ?_)
                  | refine HoldsT.block ?_
                  | refine HoldsT.ret ?_
                  | refine HoldsT.skip ?_
                  | refine HoldsT.exit ?_)
              | (refine okTr_intro ?_; kernel_rfl)
              | exact absurd rfl h
              | exact rowN rfl rfl rfl
              | refine allProp_C ?_ ?_
              | refine And.intro ?_ ?_
              | omega
              | (show _ < List.length _; omega)
              | exact rowlen_intro rfl
              | exact lenEq_intro rfl
              | exact Nat.le_of_ble_eq_true rfl
              | (simp only [AV.rowlenD, AV.rowlen, AV.ncells, mulSz, toN, Option.map_some, Option.map_none, cutL, List.length_take, List.length_drop, List.length_append, List.length_cons, List.length_nil, List.length_set, Option.some.injEq, Int.reduceToNat] <;> omega))
            · refine ⟨2, ⟨by decide, by decide⟩, ?_⟩
              refine WeakT.of ?_ ?_ (by kernel_rfl)
              · repeat' (first | exact TTle.junk _ _ | exact TTle.same _ | refine TTle.node ?_ ?_ | refine TTle.leaf ?_ | exact AVle.junk _ | exact AVle.rfl' rfl | exact AVle.nilS | exact AVle.nilB)
              · repeat' (first | exact OOle.none _ _ | exact OOle.same _ | refine OOle.node ?_ ?_ | exact OOle.leaf _ | exact OOle.gone _)
          · show HoldsT Tryd.prog _ (sh4b ls l p n 0 l 2) _
            repeat' (first
              | refine allProp_T ?_
              | exact trivial
              | (refine URun.id ?_; first
                  | refine URun.nil ?_
                  | refine URun.many tabs2 rfl rfl (by kernel_rfl) ?_ ?_
                  | (refine URun.toCall 19 rfl ?_; first
                    | refine URun.call tabs2 rfl rfl rfl rfl (k19 _ _) rfl rfl ?_ rfl ?_)
                  | (refine URun.toCall 20 rfl ?_; first
                    | refine URun.call tabs2 rfl rfl rfl rfl (k20 _ _) rfl rfl ?_ rfl ?_)
                  | (refine URun.toCall 15 rfl ?_; first
                    | refine URun.call tabs2 rfl rfl rfl rfl (k15 _ _) rfl rfl ?_ rfl ?_)
                  | refine URun.same tabs2 rfl rfl rfl ?_
                  | refine URun.same2 tabs2 rfl rfl rfl ?_
                  | refine URun.yes tabs2 rfl rfl (by decide) rfl ?_
                  | refine URun.no tabs2 rfl rfl (by decide) rfl ?_
                  | refine URun.yes tabs2 rfl rfl (fun h => h rfl) rfl ?_
                  | refine URun.no tabs2 rfl rfl (fun h => h rfl) rfl ?_
                  | refine URun.yes tabs2 rfl rfl rfl rfl ?_
                  | refine URun.no tabs2 rfl rfl rfl rfl ?_
                  | refine URun.split tabs2 rfl rfl rfl rfl (fun h => ?_) (fun h => ?_))
              | (refine TRun.id ?_; first
                  | refine TRun.nil ?_
                  | refine TRun.many rfl rfl (by kernel_rfl) ?_ ?_
                  | (refine TRun.toCall 19 rfl ?_; first
                    | refine TRun.call rfl rfl rfl rfl (k19 _ _) rfl rfl ?_ rfl ?_)
                  | (refine TRun.toCall 20 rfl ?_; first
                    | refine TRun.call rfl rfl rfl rfl (k20 _ _) rfl rfl ?_ rfl ?_)
                  | (refine TRun.toCall 15 rfl ?_; first
                    | refine TRun.call rfl rfl rfl rfl (k15 _ _) rfl rfl ?_ rfl ?_)
                  | refine TRun.same rfl rfl rfl ?_
                  | refine TRun.same2 rfl rfl rfl ?_
                  | refine TRun.yes rfl rfl (by decide) rfl ?_
                  | refine TRun.no rfl rfl (by decide) rfl ?_
                  | refine TRun.yes rfl rfl (fun h => h rfl) rfl ?_
                  | refine TRun.no rfl rfl (fun h => h rfl) rfl ?_
                  | refine TRun.yes rfl rfl rfl rfl ?_
                  | refine TRun.no rfl rfl rfl rfl ?_
                  | refine TRun.split rfl rfl rfl rfl (fun h => ?_) (fun h => ?_))
              | (refine HoldsT.id ?_; first
                  | refine HoldsT.seq ?_
                  | refine HoldsT.regionU ?_
                  | refine HoldsT.drawn tabs2 ?_
                  | refine HoldsT.yes rfl ?_
                  | refine HoldsT.no rfl ?_
                  | refine HoldsT.cond rfl (fun h => ?_) (fun h => ?_)
                  | refine HoldsT.block ?_
                  | refine HoldsT.ret ?_
                  | refine HoldsT.skip ?_
                  | refine HoldsT.exit ?_)
              | (refine okTr_intro ?_; kernel_rfl)
              | exact absurd rfl h
              | exact rowN rfl rfl rfl
              | refine allProp_C ?_ ?_
              | refine And.intro ?_ ?_
              | omega
              | (show _ < List.length _; omega)
              | exact rowlen_intro rfl
              | exact lenEq_intro rfl
              | exact Nat.le_of_ble_eq_true rfl
              | (simp only [AV.rowlenD, AV.rowlen, AV.ncells, mulSz, toN, Option.map_some, Option.map_none, cutL, List.length_take, List.length_drop, List.length_append, List.length_cons, List.length_nil, List.length_set, Option.some.injEq, Int.reduceToNat] <;> omega))
            · refine ⟨3, ⟨by decide, by decide⟩, ?_⟩
              refine WeakT.of ?_ ?_ (by kernel_rfl)
              · repeat' (first | exact TTle.junk _ _ | exact TTle.same _ | refine TTle.node ?_ ?_ | refine TTle.leaf ?_ | exact AVle.junk _ | exact AVle.rfl' rfl | exact AVle.nilS | exact AVle.nilB)
              · repeat' (first | exact OOle.none _ _ | exact OOle.same _ | refine OOle.node ?_ ?_ | exact OOle.leaf _ | exact OOle.gone _)
          · show HoldsT Tryd.prog _ (sh4b ls l p n 0 l 3) _
            repeat' (first
              | refine allProp_T ?_
              | exact trivial
              | (refine URun.id ?_; first
                  | refine URun.nil ?_
                  | refine URun.many tabs2 rfl rfl (by kernel_rfl) ?_ ?_
                  | (refine URun.toCall 19 rfl ?_; first
                    | refine URun.call tabs2 rfl rfl rfl rfl (k19 _ _) rfl rfl ?_ rfl ?_)
                  | (refine URun.toCall 20 rfl ?_; first
                    | refine URun.call tabs2 rfl rfl rfl rfl (k20 _ _) rfl rfl ?_ rfl ?_)
                  | (refine URun.toCall 15 rfl ?_; first
                    | refine URun.call tabs2 rfl rfl rfl rfl (k15 _ _) rfl rfl ?_ rfl ?_)
                  | refine URun.same tabs2 rfl rfl rfl ?_
                  | refine URun.same2 tabs2 rfl rfl rfl ?_
                  | refine URun.yes tabs2 rfl rfl (by decide) rfl ?_
                  | refine URun.no tabs2 rfl rfl (by decide) rfl ?_
                  | refine URun.yes tabs2 rfl rfl (fun h => h rfl) rfl ?_
                  | refine URun.no tabs2 rfl rfl (fun h => h rfl) rfl ?_
                  | refine URun.yes tabs2 rfl rfl rfl rfl ?_
                  | refine URun.no tabs2 rfl rfl rfl rfl ?_
                  | refine URun.split tabs2 rfl rfl rfl rfl (fun h => ?_) (fun h => ?_))
              | (refine TRun.id ?_; first
                  | refine TRun.nil ?_
                  | refine TRun.many rfl rfl (by kernel_rfl) ?_ ?_
                  | (refine TRun.toCall 19 rfl ?_; first
                    | refine TRun.call rfl rfl rfl rfl (k19 _ _) rfl rfl ?_ rfl ?_)
                  | (refine TRun.toCall 20 rfl ?_; first
                    | refine TRun.call rfl rfl rfl rfl (k20 _ _) rfl rfl ?_ rfl ?_)
                  | (refine TRun.toCall 15 rfl ?_; first
                    | refine TRun.call rfl rfl rfl rfl (k15 _ _) rfl rfl ?_ rfl ?_)
                  | refine TRun.same rfl rfl rfl ?_
                  | refine TRun.same2 rfl rfl rfl ?_
                  | refine TRun.yes rfl rfl (by decide) rfl ?_
                  | refine TRun.no rfl rfl (by decide) rfl ?_
                  | refine TRun.yes rfl rfl (fun h => h rfl) rfl ?_
                  | refine TRun.no rfl rfl (fun h => h rfl) rfl ?_
                  | refine TRun.yes rfl rfl rfl rfl ?_
                  | refine TRun.no rfl rfl rfl rfl ?_
                  | refine TRun.split rfl rfl rfl rfl (fun h => ?_) (fun h => ?_))
              | (refine HoldsT.id ?_; first
                  | refine HoldsT.seq ?_
                  | refine HoldsT.regionU ?_
                  | refine HoldsT.drawn tabs2 ?_
                  | refine HoldsT.yes rfl ?_
                  | refine HoldsT.no rfl ?_
                  | refine HoldsT.cond rfl (fun h => ?_) (fun h => ?_)
                  | refine HoldsT.block ?_
                  | refine HoldsT.ret ?_
                  | refine HoldsT.skip ?_
                  | refine HoldsT.exit ?_)
              | (refine okTr_intro ?_; kernel_rfl)
              | exact absurd rfl h
              | exact rowN rfl rfl rfl
              | refine allProp_C ?_ ?_
              | refine And.intro ?_ ?_
              | omega
              | (show _ < List.length _; omega)
              | exact rowlen_intro rfl
              | exact lenEq_intro rfl
              | exact Nat.le_of_ble_eq_true rfl
              | (simp only [AV.rowlenD, AV.rowlen, AV.ncells, mulSz, toN, Option.map_some, Option.map_none, cutL, List.length_take, List.length_drop, List.length_append, List.length_cons, List.length_nil, List.length_set, Option.some.injEq, Int.reduceToNat] <;> omega))
            · refine ⟨1, ⟨by decide, by decide⟩, ?_⟩
              refine WeakT.of ?_ ?_ (by kernel_rfl)
              · repeat' (first | exact TTle.junk _ _ | exact TTle.same _ | refine TTle.node ?_ ?_ | refine TTle.leaf ?_ | exact AVle.junk _ | exact AVle.rfl' rfl | exact AVle.nilS | exact AVle.nilB)
              · repeat' (first | exact OOle.none _ _ | exact OOle.same _ | refine OOle.node ?_ ?_ | exact OOle.leaf _ | exact OOle.gone _)
    · show HoldsT Tryd.prog _ (sh4a ls l p n 1) _
      repeat' (first
        | refine allProp_T ?_
        | exact trivial
        | (refine URun.id ?_; first
            | refine URun.nil ?_
            | refine URun.many tabs2 rfl rfl (by kernel_rfl) ?_ ?_
            | (refine URun.toCall 19 rfl ?_; first
              | refine URun.call tabs2 rfl rfl rfl rfl (k19 _ _) rfl rfl ?_ rfl ?_)
            | (refine URun.toCall 20 rfl ?_; first
              | refine URun.call tabs2 rfl rfl rfl rfl (k20 _ _) rfl rfl ?_ rfl ?_)
            | (refine URun.toCall 15 rfl ?_; first
              | refine URun.call tabs2 rfl rfl rfl rfl (k15 _ _) rfl rfl ?_ rfl ?_)
            | refine URun.same tabs2 rfl rfl rfl ?_
            | refine URun.same2 tabs2 rfl rfl rfl ?_
            | refine URun.yes tabs2 rfl rfl (by decide) rfl ?_
            | refine URun.no tabs2 rfl rfl (by decide) rfl ?_
            | refine URun.yes tabs2 rfl rfl (fun h => h rfl) rfl ?_
            | refine URun.no tabs2 rfl rfl (fun h => h rfl) rfl ?_
            | refine URun.yes tabs2 rfl rfl rfl rfl ?_
            | refine URun.no tabs2 rfl rfl rfl rfl ?_
            | refine URun.split tabs2 rfl rfl rfl rfl (fun h => ?_) (fun h => ?_))
        | (refine TRun.id ?_; first
            | refine TRun.nil ?_
            | refine TRun.many rfl rfl (by kernel_rfl) ?_ ?_
            | (refine TRun.toCall 19 rfl ?_; first
              | refine TRun.call rfl rfl rfl rfl (k19 _ _) rfl rfl ?_ rfl ?_)
            | (refine TRun.toCall 20 rfl ?_; first
              | refine TRun.call rfl rfl rfl rfl (k20 _ _) rfl rfl ?_ rfl ?_)
            | (refine TRun.toCall 15 rfl ?_; first
              | refine TRun.call rfl rfl rfl rfl (k15 _ _) rfl rfl ?_ rfl ?_)
            | refine TRun.same rfl rfl rfl ?_
            | refine TRun.same2 rfl rfl rfl ?_
            | refine TRun.yes rfl rfl (by decide) rfl ?_
            | refine TRun.no rfl rfl (by decide) rfl ?_
            | refine TRun.yes rfl rfl (fun h => h rfl) rfl ?_
            | refine TRun.no rfl rfl (fun h => h rfl) rfl ?_
            | refine TRun.yes rfl rfl rfl rfl ?_
            | refine TRun.no rfl rfl rfl rfl ?_
            | refine TRun.split rfl rfl rfl rfl (fun h => ?_) (fun h => ?_))
        | (refine HoldsT.id ?_; first
            | refine HoldsT.seq ?_
            | refine HoldsT.regionU ?_
            | refine HoldsT.drawn tabs2 ?_
            | refine HoldsT.yes rfl ?_
            | refine HoldsT.no rfl ?_
            | refine HoldsT.cond rfl (fun h => ?_) (fun h => ?_)
            | refine HoldsT.block ?_
            | refine HoldsT.ret ?_
            | refine HoldsT.skip ?_
            | refine HoldsT.exit ?_)
        | (refine okTr_intro ?_; kernel_rfl)
        | exact absurd rfl h
        | exact rowN rfl rfl rfl
        | refine allProp_C ?_ ?_
        | refine And.intro ?_ ?_
        | omega
        | (show _ < List.length _; omega)
        | exact rowlen_intro rfl
        | exact lenEq_intro rfl
        | exact Nat.le_of_ble_eq_true rfl
        | (simp only [AV.rowlenD, AV.rowlen, AV.ncells, mulSz, toN, Option.map_some, Option.map_none, cutL, List.length_take, List.length_drop, List.length_append, List.length_cons, List.length_nil, List.length_set, Option.some.injEq, Int.reduceToNat] <;> omega))
      · refine HoldsT.loop (fun z : Int => sh4b ls l p n 1 p z) (fun z => (3 - z).toNat) (fun z => z = 0 ∨ z = 1 ∨ z = 2 ∨ z = 3) 0 ?_ (.inl rfl) (fun _ => by kernel_rfl) ?_
        · refine WeakT.of ?_ ?_ (by kernel_rfl)
          · repeat' (first | exact TTle.junk _ _ | exact TTle.same _ | refine TTle.node ?_ ?_ | refine TTle.leaf ?_ | exact AVle.junk _ | exact AVle.rfl' rfl | exact AVle.nilS | exact AVle.nilB)
          · repeat' (first | exact OOle.none _ _ | exact OOle.same _ | refine OOle.node ?_ ?_ | exact OOle.leaf _ | exact OOle.gone _)
        · intro z hz
          rcases hz with rfl | rfl | rfl | rfl
          · show HoldsT Tryd.prog _ (sh4b ls l p n 1 p 0) _
            repeat' (first
              | refine allProp_T ?_
              | exact trivial
              | (refine URun.id ?_; first
                  | refine URun.nil ?_
                  | refine URun.many tabs2 rfl rfl (by kernel_rfl) ?_ ?_
                  | (refine URun.toCall 19 rfl ?_; first
                    | refine URun.call tabs2 rfl rfl rfl rfl (k19 _ _) rfl rfl ?_ rfl ?_)
                  | (refine URun.toCall 20 rfl ?_; first
                    | refine URun.call tabs2 rfl rfl rfl rfl (k20 _ _) rfl rfl ?_ rfl ?_)
                  | (refine URun.toCall 15 rfl ?_; first
                    | refine URun.call tabs2 rfl rfl rfl rfl (k15 _ _) rfl rfl ?_ rfl ?_)
                  | refine URun.same tabs2 rfl rfl rfl ?_
                  | refine URun.same2 tabs2 rfl rfl rfl ?_
                  | refine URun.yes tabs2 rfl rfl (by decide) rfl ?_
                  | refine URun.no tabs2 rfl rfl (by decide) rfl ?_
                  | refine URun.yes tabs2 rfl rfl (fun h => h rfl) rfl ?_
                  | refine URun.no tabs2 rfl rfl (fun h => h rfl) rfl ?_
                  | refine URun.yes tabs2 rfl rfl rfl rfl ?_
                  | refine URun.no tabs2 rfl rfl rfl rfl ?_
                  | refine URun.split tabs2 rfl rfl rfl rfl (fun h => ?_) (fun h => ?_))
              | (refine TRun.id ?_; first
                  | refine TRun.nil ?_
                  | refine TRun.many rfl rfl (by kernel_rfl) ?_ ?_
                  | (refine TRun.toCall 19 rfl ?_; first
                    | refine TRun.call rfl rfl rfl rfl (k19 _ _) rfl rfl ?_ rfl ?_)
                  | (refine TRun.toCall 20 rfl ?_; first
                    | refine TRun.call rfl rfl rfl rfl (k20 _ _) rfl rfl ?_ rfl ?_)
                  | (refine TRun.toCall 15 rfl ?_; first
                    | refine TRun.call rfl rfl rfl rfl (k15 _ _) rfl rfl ?_ rfl ?_)
                  | refine TRun.same rfl rfl rfl ?_
                  | refine TRun.same2 rfl rfl rfl ?_
                  | refine TRun.yes rfl rfl (by decide) rfl ?_
                  | refine TRun.no rfl rfl (by decide) rfl ?_
                  | refine TRun.yes rfl rfl (fun h => h rfl) rfl ?_
                  | refine TRun.no rfl rfl (fun h => h rfl) rfl ?_
                  | refine TRun.yes rfl rfl rfl rfl ?_
                  | refine TRun.no rfl rfl rfl rfl ?_
                  | refine TRun.split rfl rfl rfl rfl (fun h => ?_) (fun h => ?_))
              | (refine HoldsT.id ?_; first
                  | refine HoldsT.seq ?_
                  | refine HoldsT.regionU ?_
                  | refine HoldsT.drawn tabs2 ?_
                  | refine HoldsT.yes rfl ?_
                  | refine HoldsT.no rfl ?_
                  | refine HoldsT.cond rfl (fun h => ?_) (fun h => ?_)
                  | refine HoldsT.block ?_
                  | refine HoldsT.ret ?_
                  | refine HoldsT.skip ?_
                  | refine HoldsT.exit ?_)
              | (refine okTr_intro ?_; kernel_rfl)
              | exact absurd rfl h
              | exact rowN rfl rfl rfl
              | refine allProp_C ?_ ?_
              | refine And.intro ?_ ?_
              | omega
              | (show _ < List.length _; omega)
              | exact rowlen_intro rfl
              | exact lenEq_intro rfl
              | exact Nat.le_of_ble_eq_true rfl
              | (simp only [AV.rowlenD, AV.rowlen, AV.ncells, mulSz, toN, Option.map_some, Option.map_none, cutL, List.length_take, List.length_drop, List.length_append, List.length_cons, List.length_nil, List.length_set, Option.some.injEq, Int.reduceToNat] <;> omega))
            · refine ⟨1, ⟨by decide, by decide⟩, ?_⟩
              refine WeakT.of ?_ ?_ (by kernel_rfl)
              · repeat' (first | exact TTle.junk _ _ | exact TTle.same _ | refine TTle.node ?_ ?_ | refine TTle.leaf ?_ | exact AVle.junk _ | exact AVle.rfl' rfl | exact AVle.nilS | exact AVle.nilB)
              · repeat' (first | exact OOle.none _ _ | exact OOle.same _ | refine OOle.node ?_ ?_ | exact OOle.leaf _ | exact OOle.gone _)
          · show HoldsT Tryd.prog _ (sh4b ls l p n 1 p 1) _
            repeat' (first
              | refine allProp_T ?_
              | exact trivial
              | (refine URun.id ?_; first
                  | refine URun.nil ?_
                  | refine URun.many tabs2 rfl rfl (by kernel_rfl) ?_ ?_
                  | (refine URun.toCall 19 rfl ?_; first
                    | refine URun.call tabs2 rfl rfl rfl rfl (k19 _ _) rfl rfl ?_ rfl ?_)
                  | (refine URun.toCall 20 rfl ?_; first
                    | refine URun.call tabs2 rfl rfl rfl rfl (k20 _ _) rfl rfl ?_ rfl ?_)
                  | (refine URun.toCall 15 rfl ?_; first
                    | refine URun.call tabs2 rfl rfl rfl rfl (k15 _ _) rfl rfl ?_ rfl ?_)
                  | refine URun.same tabs2 rfl rfl rfl ?_
                  | refine URun.same2 tabs2 rfl rfl rfl ?_
                  | refine URun.yes tabs2 rfl rfl (by decide) rfl ?_
                  | refine URun.no tabs2 rfl rfl (by decide) rfl ?_
                  | refine URun.yes tabs2 rfl rfl (fun h => h rfl) rfl ?_
                  | refine URun.no tabs2 rfl rfl (fun h => h rfl) rfl ?_
                  | refine URun.yes tabs2 rfl rfl rfl rfl ?_
                  | refine URun.no tabs2 rfl rfl rfl rfl ?_
                  | refine URun.split tabs2 rfl rfl rfl rfl (fun h => ?_) (fun h => ?_))
              | (refine TRun.id ?_; first
                  | refine TRun.nil ?_
                  | refine TRun.many rfl rfl (by kernel_rfl) ?_ ?_
                  | (refine TRun.toCall 19 rfl ?_; first
                    | refine TRun.call rfl rfl rfl rfl (k19 _ _) rfl rfl ?_ rfl ?_)
                  | (refine TRun.toCall 20 rfl ?_; first
                    | refine TRun.call rfl rfl rfl rfl (k20 _ _) rfl rfl ?_ rfl ?_)
                  | (refine TRun.toCall 15 rfl ?_; first
                    | refine TRun.call rfl rfl rfl rfl (k15 _ _) rfl rfl ?_ rfl ?_)
                  | refine TRun.same rfl rfl rfl ?_
                  | refine TRun.same2 rfl rfl rfl ?_
                  | refine TRun.yes rfl rfl (by decide) rfl ?_
                  | refine TRun.no rfl rfl (by decide) rfl ?_
                  | refine TRun.yes rfl rfl (fun h => h rfl) rfl ?_
                  | refine TRun.no rfl rfl (fun h => h rfl) rfl ?_
                  | refine TRun.yes rfl rfl rfl rfl ?_
                  | refine TRun.no rfl rfl rfl rfl ?_
                  | refine TRun.split rfl rfl rfl rfl (fun h => ?_) (fun h => ?_))
              | (refine HoldsT.id ?_; first
                  | refine HoldsT.seq ?_
                  | refine HoldsT.regionU ?_
                  | refine HoldsT.drawn tabs2 ?_
                  | refine HoldsT.yes rfl ?_
                  | refine HoldsT.no rfl ?_
                  | refine HoldsT.cond rfl (fun h => ?_) (fun h => ?_)
                  | refine HoldsT.block ?_
                  | refine HoldsT.ret ?_
                  | refine HoldsT.skip ?_
                  | refine HoldsT.exit ?_)
              | (refine okTr_intro ?_; kernel_rfl)
              | exact absurd rfl h
              | exact rowN rfl rfl rfl
              | refine allProp_C ?_ ?_
              | refine And.intro ?_ ?_
              | omega
              | (show _ < List.length _; omega)
              | exact rowlen_intro rfl
              | exact lenEq_intro rfl
              | exact Nat.le_of_ble_eq_true rfl
              | (simp only [AV.rowlenD, AV.rowlen, AV.ncells, mulSz, toN, Option.map_some, Option.map_none, cutL, List.length_take, List.length_drop, List.length_append, List.length_cons, List.length_nil, List.length_set, Option.some.injEq, Int.reduceToNat] <;> omega))
            · refine ⟨2, ⟨by decide, by decide⟩, ?_⟩
              refine WeakT.of ?_ ?_ (by kernel_rfl)
              · repeat' (first | exact TTle.junk _ _ | exact TTle.same _ | refine TTle.node ?_ ?_ | refine TTle.leaf ?_ | exact AVle.junk _ | exact AVle.rfl' rfl | exact AVle.nilS | exact AVle.nilB)
              · repeat' (first | exact OOle.none _ _ | exact OOle.same _ | refine OOle.node ?_ ?_ | exact OOle.leaf _ | exact OOle.gone _)
          · show HoldsT Tryd.prog _ (sh4b ls l p n 1 p 2) _
            repeat' (first
              | refine allProp_T ?_
              | exact trivial
              | (refine URun.id ?_; first
                  | refine URun.nil ?_
                  | refine URun.many tabs2 rfl rfl (by kernel_rfl) ?_ ?_
                  | (refine URun.toCall 19 rfl ?_; first
                    | refine URun.call tabs2 rfl rfl rfl rfl (k19 _ _) rfl rfl ?_ rfl ?_)
                  | (refine URun.toCall 20 rfl ?_; first
                    | refine URun.call tabs2 rfl rfl rfl rfl (k20 _ _) rfl rfl ?_ rfl ?_)
                  | (refine URun.toCall 15 rfl ?_; first
                    | refine URun.call tabs2 rfl rfl rfl rfl (k15 _ _) rfl rfl ?_ rfl ?_)
                  | refine URun.same tabs2 rfl rfl rfl ?_
                  | refine URun.same2 tabs2 rfl rfl rfl ?_
                  | refine URun.yes tabs2 rfl rfl (by decide) rfl ?_
                  | refine URun.no tabs2 rfl rfl (by decide) rfl ?_
                  | refine URun.yes tabs2 rfl rfl (fun h => h rfl) rfl ?_
                  | refine URun.no tabs2 rfl rfl (fun h => h rfl) rfl ?_
                  | refine URun.yes tabs2 rfl rfl rfl rfl ?_
                  | refine URun.no tabs2 rfl rfl rfl rfl ?_
                  | refine URun.split tabs2 rfl rfl rfl rfl (fun h => ?_) (fun h => ?_))
              | (refine TRun.id ?_; first
                  | refine TRun.nil ?_
                  | refine TRun.many rfl rfl (by kernel_rfl) ?_ ?_
                  | (refine TRun.toCall 19 rfl ?_; first
                    | refine TRun.call rfl rfl rfl rfl (k19 _ _) rfl rfl ?_ rfl ?_)
                  | (refine TRun.toCall 20 rfl ?_; first
                    | refine TRun.call rfl rfl rfl rfl (k20 _ _) rfl rfl ?_ rfl ?_)
                  | (refine TRun.toCall 15 rfl ?_; first
                    | refine TRun.call rfl rfl rfl rfl (k15 _ _) rfl rfl ?_ rfl ?_)
                  | refine TRun.same rfl rfl rfl ?_
                  | refine TRun.same2 rfl rfl rfl ?_
                  | refine TRun.yes rfl rfl (by decide) rfl ?_
                  | refine TRun.no rfl rfl (by decide) rfl ?_
                  | refine TRun.yes rfl rfl (fun h => h rfl) rfl ?_
                  | refine TRun.no rfl rfl (fun h => h rfl) rfl ?_
                  | refine TRun.yes rfl rfl rfl rfl ?_
                  | refine TRun.no rfl rfl rfl rfl ?_
                  | refine TRun.split rfl rfl rfl rfl (fun h => ?_) (fun h => ?_))
              | (refine HoldsT.id ?_; first
                  | refine HoldsT.seq ?_
                  | refine HoldsT.regionU ?_
                  | refine HoldsT.drawn tabs2 ?_
                  | refine HoldsT.yes rfl ?_
                  | refine HoldsT.no rfl ?_
                  | refine HoldsT.cond rfl (fun h => ?_) (fun h => ?_)
                  | refine HoldsT.block ?_
                  | refine HoldsT.ret ?_
                  | refine HoldsT.skip ?_
                  | refine HoldsT.exit ?_)
              | (refine okTr_intro ?_; kernel_rfl)
              | exact absurd rfl h
              | exact rowN rfl rfl rfl
              | refine allProp_C ?_ ?_
              | refine And.intro ?_ ?_
              | omega
              | (show _ < List.length _; omega)
              | exact rowlen_intro rfl
              | exact lenEq_intro rfl
              | exact Nat.le_of_ble_eq_true rfl
              | (simp only [AV.rowlenD, AV.rowlen, AV.ncells, mulSz, toN, Option.map_some, Option.map_none, cutL, List.length_take, List.length_drop, List.length_append, List.length_cons, List.length_nil, List.length_set, Option.some.injEq, Int.reduceToNat] <;> omega))
            · refine ⟨3, ⟨by decide, by decide⟩, ?_⟩
              refine WeakT.of ?_ ?_ (by kernel_rfl)
              · repeat' (first | exact TTle.junk _ _ | exact TTle.same _ | refine TTle.node ?_ ?_ | refine TTle.leaf ?_ | exact AVle.junk _ | exact AVle.rfl' rfl | exact AVle.nilS | exact AVle.nilB)
              · repeat' (first | exact OOle.none _ _ | exact OOle.same _ | refine OOle.node ?_ ?_ | exact OOle.leaf _ | exact OOle.gone _)
          · show HoldsT Tryd.prog _ (sh4b ls l p n 1 p 3) _
            repeat' (first
              | refine allProp_T ?_
              | exact trivial
              | (refine URun.id ?_; first
                  | refine URun.nil ?_
                  | refine URun.many tabs2 rfl rfl (by kernel_rfl) ?_ ?_
                  | (refine URun.toCall 19 rfl ?_; first
                    | refine URun.call tabs2 rfl rfl rfl rfl (k19 _ _) rfl rfl ?_ rfl ?_)
                  | (refine URun.toCall 20 rfl ?_; first
                    | refine URun.call tabs2 rfl rfl rfl rfl (k20 _ _) rfl rfl ?_ rfl ?_)
                  | (refine URun.toCall 15 rfl ?_; first
                    | refine URun.call tabs2 rfl rfl rfl rfl (k15 _ _) rfl rfl ?_ rfl ?_)
                  | refine URun.same tabs2 rfl rfl rfl ?_
                  | refine URun.same2 tabs2 rfl rfl rfl ?_
                  | refine URun.yes tabs2 rfl rfl (by decide) rfl ?_
                  | refine URun.no tabs2 rfl rfl (by decide) rfl ?_
                  | refine URun.yes tabs2 rfl rfl (fun h => h rfl) rfl ?_
                  | refine URun.no tabs2 rfl rfl (fun h => h rfl) rfl ?_
                  | refine URun.yes tabs2 rfl rfl rfl rfl ?_
                  | refine URun.no tabs2 rfl rfl rfl rfl ?_
                  | refine URun.split tabs2 rfl rfl rfl rfl (fun h => ?_) (fun h => ?_))
              | (refine TRun.id ?_; first
                  | refine TRun.nil ?_
                  | refine TRun.many rfl rfl (by kernel_rfl) ?_ ?_
                  | (refine TRun.toCall 19 rfl ?_; first
                    | refine TRun.call rfl rfl rfl rfl (k19 _ _) rfl rfl ?_ rfl ?_)
                  | (refine TRun.toCall 20 rfl ?_; first
                    | refine TRun.call rfl rfl rfl rfl (k20 _ _) rfl rfl ?_ rfl ?_)
                  | (refine TRun.toCall 15 rfl ?_; first
                    | refine TRun.call rfl rfl rfl rfl (k15 _ _) rfl rfl ?_ rfl ?_)
                  | refine TRun.same rfl rfl rfl ?_
                  | refine TRun.same2 rfl rfl rfl ?_
                  | refine TRun.yes rfl rfl (by decide) rfl ?_
                  | refine TRun.no rfl rfl (by decide) rfl ?_
                  | refine TRun.yes rfl rfl (fun h => h rfl) rfl ?_
                  | refine TRun.no rfl rfl (fun h => h rfl) rfl ?_
                  | refine TRun.yes rfl rfl rfl rfl ?_
                  | refine TRun.no rfl rfl rfl rfl ?_
                  | refine TRun.split rfl rfl rfl rfl (fun h => ?_) (fun h => ?_))
              | (refine HoldsT.id ?_; first
                  | refine HoldsT.seq ?_
                  | refine HoldsT.regionU ?_
                  | refine HoldsT.drawn tabs2 ?_
                  | refine HoldsT.yes rfl ?_
                  | refine HoldsT.no rfl ?_
                  | refine HoldsT.cond rfl (fun h => ?_) (fun h => ?_)
                  | refine HoldsT.block ?_
                  | refine HoldsT.ret ?_
                  | refine HoldsT.skip ?_
                  | refine HoldsT.exit ?_)
              | (refine okTr_intro ?_; kernel_rfl)
              | exact absurd rfl h
              | exact rowN rfl rfl rfl
              | refine allProp_C ?_ ?_
              | refine And.intro ?_ ?_
              | omega
              | (show _ < List.length _; omega)
              | exact rowlen_intro rfl
              | exact lenEq_intro rfl
              | exact Nat.le_of_ble_eq_true rfl
              | (simp only [AV.rowlenD, AV.rowlen, AV.ncells, mulSz, toN, Option.map_some, Option.map_none, cutL, List.length_take, List.length_drop, List.length_append, List.length_cons, List.length_nil, List.length_set, Option.some.injEq, Int.reduceToNat] <;> omega))
            · refine ⟨2, ⟨by decide, by decide⟩, ?_⟩
              refine WeakT.of ?_ ?_ (by kernel_rfl)
              · repeat' (first | exact TTle.junk _ _ | exact TTle.same _ | refine TTle.node ?_ ?_ | refine TTle.leaf ?_ | exact AVle.junk _ | exact AVle.rfl' rfl | exact AVle.nilS | exact AVle.nilB)
              · repeat' (first | exact OOle.none _ _ | exact OOle.same _ | refine OOle.node ?_ ?_ | exact OOle.leaf _ | exact OOle.gone _)
    · show HoldsT Tryd.prog _ (sh4a ls l p n 2) _
      repeat' (first
        | refine allProp_T ?_
        | exact trivial
        | (refine URun.id ?_; first
            | refine URun.nil ?_
            | refine URun.many tabs2 rfl rfl (by kernel_rfl) ?_ ?_
            | (refine URun.toCall 19 rfl ?_; first
              | refine URun.call tabs2 rfl rfl rfl rfl (k19 _ _) rfl rfl ?_ rfl ?_)
            | (refine URun.toCall 20 rfl ?_; first
              | refine URun.call tabs2 rfl rfl rfl rfl (k20 _ _) rfl rfl ?_ rfl ?_)
            | (refine URun.toCall 15 rfl ?_; first
              | refine URun.call tabs2 rfl rfl rfl rfl (k15 _ _) rfl rfl ?_ rfl ?_)
            | refine URun.same tabs2 rfl rfl rfl ?_
            | refine URun.same2 tabs2 rfl rfl rfl ?_
            | refine URun.yes tabs2 rfl rfl (by decide) rfl ?_
            | refine URun.no tabs2 rfl rfl (by decide) rfl ?_
            | refine URun.yes tabs2 rfl rfl (fun h => h rfl) rfl ?_
            | refine URun.no tabs2 rfl rfl (fun h => h rfl) rfl ?_
            | refine URun.yes tabs2 rfl rfl rfl rfl ?_
            | refine URun.no tabs2 rfl rfl rfl rfl ?_
            | refine URun.split tabs2 rfl rfl rfl rfl (fun h => ?_) (fun h => ?_))
        | (refine TRun.id ?_; first
            | refine TRun.nil ?_
            | refine TRun.many rfl rfl (by kernel_rfl) ?_ ?_
            | (refine TRun.toCall 19 rfl ?_; first
              | refine TRun.call rfl rfl rfl rfl (k19 _ _) rfl rfl ?_ rfl ?_)
            | (refine TRun.toCall 20 rfl ?_; first
              | refine TRun.call rfl rfl rfl rfl (k20 _ _) rfl rfl ?_ rfl ?_)
            | (refine TRun.toCall 15 rfl ?_; first
              | refine TRun.call rfl rfl rfl rfl (k15 _ _) rfl rfl ?_ rfl ?_)
            | refine TRun.same rfl rfl rfl ?_
            | refine TRun.same2 rfl rfl rfl ?_
            | refine TRun.yes rfl rfl (by decide) rfl ?_
            | refine TRun.no rfl rfl (by decide) rfl ?_
            | refine TRun.yes rfl rfl (fun h => h rfl) rfl ?_
            | refine TRun.no rfl rfl (fun h => h rfl) rfl ?_
            | refine TRun.yes rfl rfl rfl rfl ?_
            | refine TRun.no rfl rfl rfl rfl ?_
            | refine TRun.split rfl rfl rfl rfl (fun h => ?_) (fun h => ?_))
        | (refine HoldsT.id ?_; first
            | refine HoldsT.seq ?_
            | refine HoldsT.regionU ?_
            | refine HoldsT.drawn tabs2 ?_
            | refine HoldsT.yes rfl ?_
            | refine HoldsT.no rfl ?_
            | refine HoldsT.cond rfl (fun h => ?_) (fun h => ?_)
            | refine HoldsT.block ?_
            | refine HoldsT.ret ?_
            | refine HoldsT.skip ?_
            | refine HoldsT.exit ?_)
        | (refine okTr_intro ?_; kernel_rfl)
        | exact absurd rfl h
        | exact rowN rfl rfl rfl
        | refine allProp_C ?_ ?_
        | refine And.intro ?_ ?_
        | omega
        | (show _ < List.length _; omega)
        | exact rowlen_intro rfl
        | exact lenEq_intro rfl
        | exact Nat.le_of_ble_eq_true rfl
        | (simp only [AV.rowlenD, AV.rowlen, AV.ncells, mulSz, toN, Option.map_some, Option.map_none, cutL, List.length_take, List.length_drop, List.length_append, List.length_cons, List.length_nil, List.length_set, Option.some.injEq, Int.reduceToNat] <;> omega))
      all_goals exact FinC.te (y := .bool true) rfl rfl trivial rfl

end Go.Proofs.YtefbgdnobnemkaaDoor.AM
