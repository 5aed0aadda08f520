/-
  Lines that are shifted: the law.
-/
import Derived.Test.YtefbgdnobnemkaaDoorD7
set_option linter.unusedSimpArgs false
set_option linter.unusedVariables false
set_option linter.unusedSectionVars false
namespace Go.Proofs.YtefbgdnobnemkaaDoor.AM
open Go Go.RowKit

theorem rowG12 {sz n : Nat} {cs : List AV} {a b c d e f g h i j k l : AV} (hs : sz = 3) (hc : cs = [a, b, c, d, e, f, g, h, i, j, k, l]) (hn : n = 4) : (AV.slG sz cs).rowlen = some n := by subst hs hc hn; simp [AV.rowlen]
theorem q26 (ls : List (List UInt8)) (f t n : Int) (b : Bool) (hL : ls.length ≤ 1000000000) (hB : ∀ n : Nat, (ls.getD n []).length ≤ 1000000000) : Pure Tryd.prog 26 [.slS ls, .int .i64 f, .int .i64 t, .int .i64 n, .bool b] (shiftR ls f t n b).av := by
  cases b with
  | true => exact q26l ls f t n hL (fun n => by have := hB n; omega)
  | false => exact q26r ls f t n hL (fun n => by have := hB n; omega)
theorem q27 (ls : List (List UInt8)) (f t n : Int) (b : Bool) (hL : ls.length ≤ 1000000000) (hB : ∀ n : Nat, (ls.getD n []).length ≤ 1000000000) : Pure Tryd.prog 27 [.slS ls, .int .i64 f, .int .i64 t, .int .i64 n, .bool b] (shiftR ls f t n b).av := by
  cases b with
  | true => exact q27l ls f t n hL hB
  | false => exact q27r ls f t n hL hB
def sh7 (ls : List (List UInt8)) (f t n p q : Int) (b : Bool) (y : Int) : TS := ⟨96, 7, (.node (.node (.node (.node (.node (.node (.node (.leaf (.slS ls)) (J 0)) (J 1)) (J 2)) (J 3)) (.node (.node (.node (.node (.leaf (.bool b)) (J 0)) (J 1)) (J 2)) (.node (J 2) (.node (J 1) (.node (.leaf (.int .i64 4)) (J 0)))))) (J 5)) (.node (.node (J 4) (.node (J 3) (.node (J 2) (.node (J 1) (.node (.leaf (.int .i64 y)) (J 0)))))) (.node (.node (J 3) (.node (J 2) (.node (J 1) (.node (.leaf (.own 59 4)) (J 0))))) (J 4)))), (.node (OO 6) (.node (OO 5) (.node (.node (OO 3) (.node (OO 2) (.node (OO 1) (.node (.leaf (some ⟨true, true, .slG 3 [.int .i64 f, .int .i64 t, .int .i64 (n.tmod 5), .int .i64 (min p q), .int .i64 (max p q), .int .i64 (n.tmod 5), .int .i64 p, .int .i64 q, .int .i64 1, .int .i64 p, .int .i64 p, .int .i64 (min n 1100)], 54⟩)) (OO 0))))) (OO 4))))⟩
set_option maxRecDepth 10000 in
set_option maxHeartbeats 8000000 in
theorem q7 (ls : List (List UInt8)) (f t n : Int) (b : Bool) (hL : ls.length ≤ 140737488355328) (hB : ∀ n : Nat, (ls.getD n []).length ≤ 140737488355328) (hf : inK .i64 f) (ht : inK .i64 t) (hn : inK .i64 n) : Pure Tryd.prog 7 [.slS ls, .int .i64 f, .int .i64 t, .int .i64 n, .bool b] (.bool true) := by
  have k27 := p27 ls hL hB
  by_cases hg : (decide (0 < (ls.length : Int)) && lightL ls) = true ∧ ls.length ≤ 10
  · obtain ⟨hok, h10⟩ := hg
    rw [hok] at k27
    obtain ⟨h0, hll, hr⟩ := light_len hok
    have k42a := p42 f ls.length hf (by omega)
    have k42b := p42 t ls.length ht (by omega)
    generalize (if f.tmod ls.length < 0 then f.tmod ls.length + ls.length else f.tmod ls.length) = p at *
    generalize (if t.tmod ls.length < 0 then t.tmod ls.length + ls.length else t.tmod ls.length) = q at *
    have k26 := fun f t n => q26 ls f t n b (by omega) (fun n => by have := hr n; omega)
    have k27s := fun f t n => q27 ls f t n b (by omega) (fun n => by have := hr n; omega)
    have k15 : ∀ f t n, Pure Tryd.prog 15 [.agg [.int .i64 (shiftR ls f t n b).at', .slS (shiftR ls f t n b).old, .slS (shiftR ls f t n b).new], .bool (shiftR ls f t n b).ok, .agg [.int .i64 (shiftR ls f t n b).at', .slS (shiftR ls f t n b).old, .slS (shiftR ls f t n b).new], .bool (shiftR ls f t n b).ok] (.bool true) := fun f t n => by
      have hb := shift_len ls f t n b
      exact q15 _ _ _ _ _ _ _ _ (by omega) (by omega) ⟨rfl, rfl, rfl, rfl⟩
    have h5 : inK .i64 (n.tmod 5) := by
      have h1 := Int.tmod_lt_of_pos n (show (0 : Int) < 5 by omega)
      have h2 := Int.lt_tmod_of_pos n (show (0 : Int) < 5 by omega)
      exact ⟨by omega, by omega⟩
    refine Pure.ofT tab2_ok Tryd.func7 rfl rfl [.tmp 10] rfl (by decide) rfl ⟨96, 7, (.node (.node (.node (.node (.node (.node (.node (.leaf (.slS ls)) (J 0)) (J 1)) (J 2)) (J 3)) (.node (.node (.node (.node (.leaf (.bool b)) (J 0)) (J 1)) (J 2)) (J 3))) (.node (.node (.node (.node (.node (.leaf (.int .i64 t)) (J 0)) (J 1)) (J 2)) (J 3)) (J 4))) (.node (.node (.node (.node (.node (.node (.leaf (.int .i64 f)) (J 0)) (J 1)) (J 2)) (J 3)) (J 4)) (.node (.node (.node (.node (.node (.leaf (.int .i64 n)) (J 0)) (J 1)) (J 2)) (J 3)) (J 4)))), (OO 7)⟩ (by kernel_rfl) (by kernel_rfl) ?_
    repeat' (first
      | refine allProp_T ?_
      | exact trivial
      | (refine URun.id ?_; first
          | refine URun.nil ?_
          | refine URun.many tabs2 rfl rfl (by kernel_rfl) ?_ ?_
          | (refine URun.toCall 9 rfl ?_; first
            | refine URun.call tabs2 rfl rfl rfl rfl q9 rfl rfl ?_ rfl ?_)
          | (refine URun.toCall 10 rfl ?_; first
            | refine URun.call tabs2 rfl rfl rfl rfl k27 rfl rfl ?_ rfl ?_)
          | (refine URun.toCall 18 rfl ?_; first
            | refine URun.call tabs2 rfl rfl rfl rfl k42a rfl rfl ?_ rfl ?_
            | refine URun.call tabs2 rfl rfl rfl rfl k42b rfl rfl ?_ rfl ?_)
          | refine URun.same tabs2 rfl rfl rfl ?_
          | refine URun.same2 tabs2 rfl rfl rfl ?_
          | refine URun.yes tabs2 rfl rfl (by omega) rfl ?_
          | refine URun.no tabs2 rfl rfl (by omega) rfl ?_
          | refine URun.split tabs2 rfl rfl rfl rfl (fun h => ?_) (fun h => ?_))
      | (refine TRun.id ?_; first
          | refine TRun.nil ?_
          | refine TRun.many rfl rfl (by kernel_rfl) ?_ ?_
          | (refine TRun.toCall 9 rfl ?_; first
            | refine TRun.call rfl rfl rfl rfl q9 rfl rfl ?_ rfl ?_)
          | (refine TRun.toCall 10 rfl ?_; first
            | refine TRun.call rfl rfl rfl rfl k27 rfl rfl ?_ rfl ?_)
          | (refine TRun.toCall 18 rfl ?_; first
            | refine TRun.call rfl rfl rfl rfl k42a rfl rfl ?_ rfl ?_
            | refine TRun.call rfl rfl rfl rfl k42b rfl rfl ?_ rfl ?_)
          | refine TRun.same rfl rfl rfl ?_
          | refine TRun.same2 rfl rfl rfl ?_
          | refine TRun.yes rfl rfl (by omega) rfl ?_
          | refine TRun.no rfl rfl (by omega) rfl ?_
          | refine TRun.split rfl rfl rfl rfl (fun h => ?_) (fun h => ?_))
      | (refine HoldsT.id ?_; first
          | refine HoldsT.seq ?_
          | refine HoldsT.regionU ?_
          | refine HoldsT.drawn tabs2 ?_
          | refine HoldsT.yes rfl ?_
          | refine HoldsT.no rfl ?_
          | refine HoldsT.cond rfl (fun h => ?_) (fun h => ?_)
          | refine HoldsT.block ?_
          | refine HoldsT.ret ?_
          | refine HoldsT.skip ?_
          | refine HoldsT.exit ?_)
      | (refine okTr_intro ?_; kernel_rfl)
      | exact absurd rfl h
      | exact rowG12 rfl rfl rfl
      | refine allProp_C ?_ ?_
      | refine And.intro ?_ ?_
      | omega
      | (show _ < List.length _; omega)
      | exact rowlen_intro rfl
      | exact lenEq_intro rfl
      | exact Nat.le_of_ble_eq_true rfl
      | (simp only [AV.rowlenD, AV.rowlen, AV.ncells, mulSz, toN, Option.map_some, Option.map_none, cutL, List.length_take, List.length_drop, List.length_append, List.length_cons, List.length_nil, List.length_set, Option.some.injEq, Int.reduceToNat] <;> omega))
    refine HoldsT.loop (fun y : Int => sh7 ls f t n p q b y) (fun y => (4 - y).toNat) (fun y => y = 0 ∨ y = 1 ∨ y = 2 ∨ y = 3 ∨ y = 4) 0 ?_ (.inl rfl) (fun _ => by kernel_rfl) ?_
    · refine WeakT.of ?_ ?_ (by kernel_rfl)
      · repeat' (first | exact TTle.junk _ _ | exact TTle.same _ | refine TTle.node ?_ ?_ | refine TTle.leaf ?_ | exact AVle.junk _ | exact AVle.rfl' rfl | exact AVle.nilS | exact AVle.nilB)
      · repeat' (first | exact OOle.none _ _ | exact OOle.same _ | refine OOle.node ?_ ?_ | exact OOle.leaf _ | exact OOle.gone _)
    intro y hy
    rcases hy with rfl | rfl | rfl | rfl | rfl
    · show HoldsT Tryd.prog _ (sh7 ls f t n p q b 0) _
      repeat' (first
        | refine allProp_T ?_
        | exact trivial
        | (refine URun.id ?_; first
            | refine URun.nil ?_
            | refine URun.many tabs2 rfl rfl (by kernel_rfl) ?_ ?_
            | (refine URun.toCall 26 rfl ?_; first
              | refine URun.call tabs2 rfl rfl rfl rfl (k26 _ _ _) rfl rfl ?_ rfl ?_)
            | (refine URun.toCall 27 rfl ?_; first
              | refine URun.call tabs2 rfl rfl rfl rfl (k27s _ _ _) rfl rfl ?_ rfl ?_)
            | (refine URun.toCall 15 rfl ?_; first
              | refine URun.call tabs2 rfl rfl rfl rfl (k15 _ _ _) rfl rfl ?_ rfl ?_)
            | refine URun.same tabs2 rfl rfl rfl ?_
            | refine URun.same2 tabs2 rfl rfl rfl ?_
            | refine URun.yes tabs2 rfl rfl (by decide) rfl ?_
            | refine URun.no tabs2 rfl rfl (by decide) rfl ?_
            | refine URun.yes tabs2 rfl rfl rfl rfl ?_
            | refine URun.no tabs2 rfl rfl rfl rfl ?_
            | refine URun.split tabs2 rfl rfl rfl rfl (fun h => ?_) (fun h => ?_))
        | (refine TRun.id ?_; first
            | refine TRun.nil ?_
            | refine TRun.many rfl rfl (by kernel_rfl) ?_ ?_
            | (refine TRun.toCall 26 rfl ?_; first
              | refine TRun.call rfl rfl rfl rfl (k26 _ _ _) rfl rfl ?_ rfl ?_)
            | (refine TRun.toCall 27 rfl ?_; first
              | refine TRun.call rfl rfl rfl rfl (k27s _ _ _) rfl rfl ?_ rfl ?_)
            | (refine TRun.toCall 15 rfl ?_; first
              | refine TRun.call rfl rfl rfl rfl (k15 _ _ _) rfl rfl ?_ rfl ?_)
            | refine TRun.same rfl rfl rfl ?_
            | refine TRun.same2 rfl rfl rfl ?_
            | refine TRun.yes rfl rfl (by decide) rfl ?_
            | refine TRun.no rfl rfl (by decide) rfl ?_
            | refine TRun.yes rfl rfl rfl rfl ?_
            | refine TRun.no rfl rfl rfl rfl ?_
            | refine TRun.split rfl rfl rfl rfl (fun h => ?_) (fun h => ?_))
        | (refine HoldsT.id ?_; first
            | refine HoldsT.seq ?_
            | refine HoldsT.regionU ?_
            | refine HoldsT.drawn tabs2 ?_
            | refine HoldsT.yes rfl ?_
            | refine HoldsT.no rfl ?_
            | refine HoldsT.cond rfl (fun h => ?_) (fun h => ?_)
            | refine HoldsT.block ?_
            | refine HoldsT.ret ?_
            | refine HoldsT.skip ?_
            | refine HoldsT.exit ?_)
        | (refine okTr_intro ?_; kernel_rfl)
        | exact absurd rfl h
        | exact rowG12 rfl rfl rfl
        | refine allProp_C ?_ ?_
        | refine And.intro ?_ ?_
        | omega
        | (show _ < List.length _; omega)
        | exact rowlen_intro rfl
        | exact lenEq_intro rfl
        | exact Nat.le_of_ble_eq_true rfl
        | (simp only [AV.rowlenD, AV.rowlen, AV.ncells, mulSz, toN, Option.map_some, Option.map_none, cutL, List.length_take, List.length_drop, List.length_append, List.length_cons, List.length_nil, List.length_set, Option.some.injEq, Int.reduceToNat] <;> omega))
      · refine ⟨1, ⟨by decide, by decide⟩, ?_⟩
        refine WeakT.of ?_ ?_ (by kernel_rfl)
        · repeat' (first | exact TTle.junk _ _ | exact TTle.same _ | refine TTle.node ?_ ?_ | refine TTle.leaf ?_ | exact AVle.junk _ | exact AVle.rfl' rfl | exact AVle.nilS | exact AVle.nilB)
        · repeat' (first | exact OOle.none _ _ | exact OOle.same _ | refine OOle.node ?_ ?_ | exact OOle.leaf _ | exact OOle.gone _)
    · show HoldsT Tryd.prog _ (sh7 ls f t n p q b 1) _
      repeat' (first
        | refine allProp_T ?_
        | exact trivial
        | (refine URun.id ?_; first
            | refine URun.nil ?_
            | refine URun.many tabs2 rfl rfl (by kernel_rfl) ?_ ?_
            | (refine URun.toCall 26 rfl ?_; first
              | refine URun.call tabs2 rfl rfl rfl rfl (k26 _ _ _) rfl rfl ?_ rfl ?_)
            | (refine URun.toCall 27 rfl ?_; first
              | refine URun.call tabs2 rfl rfl rfl rfl (k27s _ _ _) rfl rfl ?_ rfl ?_)
            | (refine URun.toCall 15 rfl ?_; first
              | refine URun.call tabs2 rfl rfl rfl rfl (k15 _ _ _) rfl rfl ?_ rfl ?_)
            | refine URun.same tabs2 rfl rfl rfl ?_
            | refine URun.same2 tabs2 rfl rfl rfl ?_
            | refine URun.yes tabs2 rfl rfl (by decide) rfl ?_
            | refine URun.no tabs2 rfl rfl (by decide) rfl ?_
            | refine URun.yes tabs2 rfl rfl rfl rfl ?_
            | refine URun.no tabs2 rfl rfl rfl rfl ?_
            | refine URun.split tabs2 rfl rfl rfl rfl (fun h => ?_) (fun h => ?_))
        | (refine TRun.id ?_; first
            | refine TRun.nil ?_
            | refine TRun.many rfl rfl (by kernel_rfl) ?_ ?_
            | (refine TRun.toCall 26 rfl ?_; first
              | refine TRun.call rfl rfl rfl rfl (k26 _ _ _) rfl rfl ?_ rfl ?_)
            | (refine TRun.toCall 27 rfl ?_; first
              | refine TRun.call rfl rfl rfl rfl (k27s _ _ _) rfl rfl ?_ rfl ?_)
            | (refine TRun.toCall 15 rfl ?_; first
              | refine TRun.call rfl rfl rfl rfl (k15 _ _ _) rfl rfl ?_ rfl ?_)
            | refine TRun.same rfl rfl rfl ?_
            | refine TRun.same2 rfl rfl rfl ?_
            | refine TRun.yes rfl rfl (by decide) rfl ?_
            | refine TRun.no rfl rfl (by decide) rfl ?_
            | refine TRun.yes rfl rfl rfl rfl ?_
            | refine TRun.no rfl rfl rfl rfl ?_
            | refine TRun.split rfl rfl rfl rfl (fun h => ?_) (fun h => ?_))
        | (refine HoldsT.id ?_; first
            | refine HoldsT.seq ?_
            | refine HoldsT.regionU ?_
            | refine HoldsT.drawn tabs2 ?_
            | refine HoldsT.yes rfl ?_
            | refine HoldsT.no rfl ?_
            | refine HoldsT.cond rfl (fun h => ?_) (fun h => ?_)
            | refine HoldsT.block ?_
            | refine HoldsT.ret ?_
            | refine HoldsT.skip ?_
            | refine HoldsT.exit ?_)
        | (refine okTr_intro ?_; kernel_rfl)
        | exact absurd rfl h
        | exact rowG12 rfl rfl rfl
        | refine allProp_C ?_ ?_
        | refine And.intro ?_ ?_
        | omega
        | (show _ < List.length _; omega)
        | exact rowlen_intro rfl
        | exact lenEq_intro rfl
        | exact Nat.le_of_ble_eq_true rfl
        | (simp only [AV.rowlenD, AV.rowlen, AV.ncells, mulSz, toN, Option.map_some, Option.map_none, cutL, List.length_take, List.length_drop, List.length_append, List.length_cons, List.length_nil, List.length_set, Option.some.injEq, Int.reduceToNat] <;> omega))
      · refine ⟨2, ⟨by decide, by decide⟩, ?_⟩
        refine WeakT.of ?_ ?_ (by kernel_rfl)
        · repeat' (first | exact TTle.junk _ _ | exact TTle.same _ | refine TTle.node ?_ ?_ | refine TTle.leaf ?_ | exact AVle.junk _ | exact AVle.rfl' rfl | exact AVle.nilS | exact AVle.nilB)
        · repeat' (first | exact OOle.none _ _ | exact OOle.same _ | refine OOle.node ?_ ?_ | exact OOle.leaf _ | exact OOle.gone _)
    · show HoldsT Tryd.prog _ (sh7 ls f t n p q b 2) _
      repeat' (first
        | refine allProp_T ?_
        | exact trivial
        | (refine URun.id ?_; first
            | refine URun.nil ?_
            | refine URun.many tabs2 rfl rfl (by kernel_rfl) ?_ ?_
            | (refine URun.toCall 26 rfl ?_; first
              | refine URun.call tabs2 rfl rfl rfl rfl (k26 _ _ _) rfl rfl ?_ rfl ?_)
            | (refine URun.toCall 27 rfl ?_; first
              | refine URun.call tabs2 rfl rfl rfl rfl (k27s _ _ _) rfl rfl ?_ rfl ?_)
            | (refine URun.toCall 15 rfl ?_; first
              | refine URun.call tabs2 rfl rfl rfl rfl (k15 _ _ _) rfl rfl ?_ rfl ?_)
            | refine URun.same tabs2 rfl rfl rfl ?_
            | refine URun.same2 tabs2 rfl rfl rfl ?_
            | refine URun.yes tabs2 rfl rfl (by decide) rfl ?_
            | refine URun.no tabs2 rfl rfl (by decide) rfl ?_
            | refine URun.yes tabs2 rfl rfl rfl rfl ?_
            | refine URun.no tabs2 rfl rfl rfl rfl ?_
            | refine URun.split tabs2 rfl rfl rfl rfl (fun h => ?_) (fun h => ?_))
        | (refine TRun.id ?_; first
            | refine TRun.nil ?_
            | refine TRun.many rfl rfl (by kernel_rfl) ?_ ?_
            | (refine TRun.toCall 26 rfl ?_; first
              | refine TRun.call rfl rfl rfl rfl (k26 _ _ _) rfl rfl ?_ rfl ?_)
            | (refine TRun.toCall 27 rfl ?_; first
              | refine TRun.call rfl rfl rfl rfl (k27s _ _ _) rfl rfl ?_ rfl ?_)
            | (refine TRun.toCall 15 rfl ?_; first
              | refine TRun.call rfl rfl rfl rfl (k15 _ _ _) rfl rfl ?_ rfl ?_)
            | refine TRun.same rfl rfl rfl ?_
            | refine TRun.same2 rfl rfl rfl ?_
            | refine TRun.yes rfl rfl (by decide) rfl ?_
            | refine TRun.no rfl rfl (by decide) rfl ?_
            | refine TRun.yes rfl rfl rfl rfl ?_
            | refine TRun.no rfl rfl rfl rfl ?_
            | refine TRun.split rfl rfl rfl rfl (fun h => ?_) (fun h => ?_))
        | (refine HoldsT.id ?_; first
            | refine HoldsT.seq ?_
            | refine HoldsT.regionU ?_
            | refine HoldsT.drawn tabs2 ?_
            | refine HoldsT.yes rfl ?_
            | refine HoldsT.no rfl ?_
            | refine HoldsT.cond rfl (fun h => ?_) (fun h => ?_)
            | refine HoldsT.block ?_
            | refine HoldsT.ret ?_
            | refine HoldsT.skip ?_
            | refine HoldsT.exit ?_)
        | (refine okTr_intro ?_; kernel_rfl)
        | exact absurd rfl h
        | exact rowG12 rfl rfl rfl
        | refine allProp_C ?_ ?_
        | refine And.intro ?_ ?_
        | omega
        | (show _ < List.length _; omega)
        | exact rowlen_intro rfl
        | exact lenEq_intro rfl
        | exact Nat.le_of_ble_eq_true rfl
        | (simp only [AV.rowlenD, AV.rowlen, AV.ncells, mulSz, toN, Option.map_some, Option.map_none, cutL, List.length_take, List.length_drop, List.length_append, List.length_cons, List.length_nil, List.length_set, Option.some.injEq, Int.reduceToNat] <;> omega))
      · refine ⟨3, ⟨by decide, by decide⟩, ?_⟩
        refine WeakT.of ?_ ?_ (by kernel_rfl)
        · repeat' (first | exact TTle.junk _ _ | exact TTle.same _ | refine TTle.node ?_ ?_ | refine TTle.leaf ?_ | exact AVle.junk _ | exact AVle.rfl' rfl | exact AVle.nilS | exact AVle.nilB)
        · repeat' (first | exact OOle.none _ _ | exact OOle.same _ | refine OOle.node ?_ ?_ | exact OOle.leaf _ | exact OOle.gone _)
    · show HoldsT Tryd.prog _ (sh7 ls f t n p q b 3) _
      repeat' (first
        | refine allProp_T ?_
        | exact trivial
        | (refine URun.id ?_; first
            | refine URun.nil ?_
            | refine URun.many tabs2 rfl rfl (by kernel_rfl) ?_ ?_
            | (refine URun.toCall 26 rfl ?_; first
              | refine URun.call tabs2 rfl rfl rfl rfl (k26 _ _ _) rfl rfl ?_ rfl ?_)
            | (refine URun.toCall 27 rfl ?_; first
              | refine URun.call tabs2 rfl rfl rfl rfl (k27s _ _ _) rfl rfl ?_ rfl ?_)
            | (refine URun.toCall 15 rfl ?_; first
              | refine URun.call tabs2 rfl rfl rfl rfl (k15 _ _ _) rfl rfl ?_ rfl ?_)
            | refine URun.same tabs2 rfl rfl rfl ?_
            | refine URun.same2 tabs2 rfl rfl rfl ?_
            | refine URun.yes tabs2 rfl rfl (by decide) rfl ?_
            | refine URun.no tabs2 rfl rfl (by decide) rfl ?_
            | refine URun.yes tabs2 rfl rfl rfl rfl ?_
            | refine URun.no tabs2 rfl rfl rfl rfl ?_
            | refine URun.split tabs2 rfl rfl rfl rfl (fun h => ?_) (fun h => ?_))
        | (refine TRun.id ?_; first
            | refine TRun.nil ?_
            | refine TRun.many rfl rfl (by kernel_rfl) ?_ ?_
            | (refine TRun.toCall 26 rfl ?_; first
              | refine TRun.call rfl rfl rfl rfl (k26 _ _ _) rfl rfl ?_ rfl ?_)
            | (refine TRun.toCall 27 rfl ?_; first
              | refine TRun.call rfl rfl rfl rfl (k27s _ _ _) rfl rfl ?_ rfl ?_)
            | (refine TRun.toCall 15 rfl ?_; first
              | refine TRun.call rfl rfl rfl rfl (k15 _ _ _) rfl rfl ?_ rfl ?_)
            | refine TRun.same rfl rfl rfl ?_
            | refine TRun.same2 rfl rfl rfl ?_
            | refine TRun.yes rfl rfl (by decide) rfl ?_
            | refine TRun.no rfl rfl (by decide) rfl ?_
            | refine TRun.yes rfl rfl rfl rfl ?_
            | refine TRun.no rfl rfl rfl rfl ?_
            | refine TRun.split rfl rfl rfl rfl (fun h => ?_) (fun h => ?_))
        | (refine HoldsT.id ?_; first
            | refine HoldsT.seq ?_
            | refine HoldsT.regionU ?_
            | refine HoldsT.drawn tabs2 ?_
            | refine HoldsT.yes rfl ?_
            | refine HoldsT.no rfl ?_
            | refine HoldsT.cond rfl (fun h => ?_) (fun h => ?_)
            | refine HoldsT.block ?_
            | refine HoldsT.ret ?_
            | refine HoldsT.skip ?_
            | refine HoldsT.exit ?_)
        | (refine okTr_intro ?_; kernel_rfl)
        | exact absurd rfl h
        | exact rowG12 rfl rfl rfl
        | refine allProp_C ?_ ?_
        | refine And.intro ?_ ?_
        | omega
        | (show _ < List.length _; omega)
        | exact rowlen_intro rfl
        | exact lenEq_intro rfl
        | exact Nat.le_of_ble_eq_true rfl
        | (simp only [AV.rowlenD, AV.rowlen, AV.ncells, mulSz, toN, Option.map_some, Option.map_none, cutL, List.length_take, List.length_drop, List.length_append, List.length_cons, List.length_nil, List.length_set, Option.some.injEq, Int.reduceToNat] <;> omega))
      · refine ⟨4, ⟨by decide, by decide⟩, ?_⟩
        refine WeakT.of ?_ ?_ (by kernel_rfl)
        · repeat' (first | exact TTle.junk _ _ | exact TTle.same _ | refine TTle.node ?_ ?_ | refine TTle.leaf ?_ | exact AVle.junk _ | exact AVle.rfl' rfl | exact AVle.nilS | exact AVle.nilB)
        · repeat' (first | exact OOle.none _ _ | exact OOle.same _ | refine OOle.node ?_ ?_ | exact OOle.leaf _ | exact OOle.gone _)
    · show HoldsT Tryd.prog _ (sh7 ls f t n p q b 4) _
      repeat' (first
        | refine allProp_T ?_
        | exact trivial
        | (refine URun.id ?_; first
            | refine URun.nil ?_
            | refine URun.many tabs2 rfl rfl (by kernel_rfl) ?_ ?_
            | (refine URun.toCall 26 rfl ?_; first
              | refine URun.call tabs2 rfl rfl rfl rfl (k26 _ _ _) rfl rfl ?_ rfl ?_)
            | (refine URun.toCall 27 rfl ?_; first
              | refine URun.call tabs2 rfl rfl rfl rfl (k27s _ _ _) rfl rfl ?_ rfl ?_)
            | (refine URun.toCall 15 rfl ?_; first
              | refine URun.call tabs2 rfl rfl rfl rfl (k15 _ _ _) rfl rfl ?_ rfl ?_)
            | refine URun.same tabs2 rfl rfl rfl ?_
            | refine URun.same2 tabs2 rfl rfl rfl ?_
            | refine URun.yes tabs2 rfl rfl (by decide) rfl ?_
            | refine URun.no tabs2 rfl rfl (by decide) rfl ?_
            | refine URun.yes tabs2 rfl rfl rfl rfl ?_
            | refine URun.no tabs2 rfl rfl rfl rfl ?_
            | refine URun.split tabs2 rfl rfl rfl rfl (fun h => ?_) (fun h => ?_))
        | (refine TRun.id ?_; first
            | refine TRun.nil ?_
            | refine TRun.many rfl rfl (by kernel_rfl) ?_ ?_
            | (refine TRun.toCall 26 rfl ?_; first
              | refine TRun.call rfl rfl rfl rfl (k26 _ _ _) rfl rfl ?_ rfl ?_)
            | (refine TRun.toCall 27 rfl ?_; first
              | refine TRun.call rfl rfl rfl rfl (k27s _ _ _) rfl rfl ?_ rfl ?_)
            | (refine TRun.toCall 15 rfl ?_; first
              | refine TRun.call rfl rfl rfl rfl (k15 _ _ _) rfl rfl ?_ rfl ?_)
            | refine TRun.same rfl rfl rfl ?_
            | refine TRun.same2 rfl rfl rfl ?_
            | refine TRun.yes rfl rfl (by decide) rfl ?_
            | refine TRun.no rfl rfl (by decide) rfl ?_
            | refine TRun.yes rfl rfl rfl rfl ?_
            | refine TRun.no rfl rfl rfl rfl ?_
            | refine TRun.split rfl rfl rfl rfl (fun h => ?_) (fun h => ?_))
        | (refine HoldsT.id ?_; first
            | refine HoldsT.seq ?_
            | refine HoldsT.regionU ?_
            | refine HoldsT.drawn tabs2 ?_
            | refine HoldsT.yes rfl ?_
            | refine HoldsT.no rfl ?_
            | refine HoldsT.cond rfl (fun h => ?_) (fun h => ?_)
            | refine HoldsT.block ?_
            | refine HoldsT.ret ?_
            | refine HoldsT.skip ?_
            | refine HoldsT.exit ?_)
        | (refine okTr_intro ?_; kernel_rfl)
        | exact absurd rfl h
        | exact rowG12 rfl rfl rfl
        | refine allProp_C ?_ ?_
        | refine And.intro ?_ ?_
        | omega
        | (show _ < List.length _; omega)
        | exact rowlen_intro rfl
        | exact lenEq_intro rfl
        | exact Nat.le_of_ble_eq_true rfl
        | (simp only [AV.rowlenD, AV.rowlen, AV.ncells, mulSz, toN, Option.map_some, Option.map_none, cutL, List.length_take, List.length_drop, List.length_append, List.length_cons, List.length_nil, List.length_set, Option.some.injEq, Int.reduceToNat] <;> omega))
      all_goals exact FinC.te (y := .bool true) rfl rfl trivial rfl
  · have hg' : (decide (0 < (ls.length : Int)) && lightL ls) = true → ls.length ≤ 10 → False := fun x y => hg ⟨x, y⟩
    generalize (decide (0 < (ls.length : Int)) && lightL ls) = g1 at *
    refine Pure.ofT tab2_ok Tryd.func7 rfl rfl [.tmp 10] rfl (by decide) rfl ⟨96, 7, (.node (.node (.node (.node (.node (.node (.node (.leaf (.slS ls)) (J 0)) (J 1)) (J 2)) (J 3)) (.node (.node (.node (.node (.leaf (.bool b)) (J 0)) (J 1)) (J 2)) (J 3))) (.node (.node (.node (.node (.node (.leaf (.int .i64 t)) (J 0)) (J 1)) (J 2)) (J 3)) (J 4))) (.node (.node (.node (.node (.node (.node (.leaf (.int .i64 f)) (J 0)) (J 1)) (J 2)) (J 3)) (J 4)) (.node (.node (.node (.node (.node (.leaf (.int .i64 n)) (J 0)) (J 1)) (J 2)) (J 3)) (J 4)))), (OO 7)⟩ (by kernel_rfl) (by kernel_rfl) ?_
    repeat' (first
      | refine allProp_T ?_
      | exact trivial
      | (refine URun.id ?_; first
          | refine URun.nil ?_
          | refine URun.many tabs2 rfl rfl (by kernel_rfl) ?_ ?_
          | (refine URun.toCall 9 rfl ?_; first
            | refine URun.call tabs2 rfl rfl rfl rfl q9 rfl rfl ?_ rfl ?_)
          | (refine URun.toCall 10 rfl ?_; first
            | refine URun.callB tabs2 rfl rfl rfl rfl k27 rfl rfl ?_ rfl rfl (fun h => ?_) (fun h => ?_))
          | refine URun.same tabs2 rfl rfl rfl ?_
          | refine URun.same2 tabs2 rfl rfl rfl ?_
          | refine URun.split tabs2 rfl rfl rfl rfl (fun h => ?_) (fun h => ?_))
      | (refine TRun.id ?_; first
          | refine TRun.nil ?_
          | refine TRun.many rfl rfl (by kernel_rfl) ?_ ?_
          | (refine TRun.toCall 9 rfl ?_; first
            | refine TRun.call rfl rfl rfl rfl q9 rfl rfl ?_ rfl ?_)
          | (refine TRun.toCall 10 rfl ?_; first
            | refine TRun.callB rfl rfl rfl rfl k27 rfl rfl ?_ rfl rfl (fun h => ?_) (fun h => ?_))
          | refine TRun.same rfl rfl rfl ?_
          | refine TRun.same2 rfl rfl rfl ?_
          | refine TRun.split rfl rfl rfl rfl (fun h => ?_) (fun h => ?_))
      | (refine HoldsT.id ?_; first
          | refine HoldsT.seq ?_
          | refine HoldsT.regionU ?_
          | refine HoldsT.drawn tabs2 ?_
          | refine HoldsT.yes rfl ?_
          | refine HoldsT.no rfl ?_
          | refine HoldsT.cond rfl (fun h => ?_) (fun h => ?_)
          | refine HoldsT.block ?_
          | refine HoldsT.ret ?_
          | refine HoldsT.skip ?_
          | refine HoldsT.exit ?_)
      | (refine okTr_intro ?_; kernel_rfl)
      | exact absurd rfl h
      | exact (hg' ‹_› (by omega)).elim
      | refine allProp_C ?_ ?_
      | refine And.intro ?_ ?_
      | omega
      | (show _ < List.length _; omega)
      | exact rowlen_intro rfl
      | exact lenEq_intro rfl
      | exact Nat.le_of_ble_eq_true rfl
      | (simp only [AV.rowlenD, AV.rowlen, AV.ncells, mulSz, toN, Option.map_some, Option.map_none, cutL, List.length_take, List.length_drop, List.length_append, List.length_cons, List.length_nil, List.length_set, Option.some.injEq, Int.reduceToNat] <;> omega))
    all_goals first | exact FinC.te (y := .bool true) rfl rfl trivial rfl | exact (hg' ‹_› (by omega)).elim

end Go.Proofs.YtefbgdnobnemkaaDoor.AM
