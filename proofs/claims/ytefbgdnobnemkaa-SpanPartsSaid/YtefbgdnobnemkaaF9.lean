/-
  Two ranges that touch.
-/
import Derived.Test.YtefbgdnobnemkaaF8
import Derived.Test.YtefbgdnobnemkaaM32
namespace Go.Proofs.Ytefbgdnobnemkaa.AM
open Go Go.RowKit

theorem join_rows (g1 g2 g3 : Nat → List UInt8) (a b : Nat) (h1 : ∀ i, i < a → g3 i = g1 i) (h2 : g3 a = g1 a ++ g2 0) (h3 : ∀ j, 1 ≤ j → j ≤ b → g3 (a + j) = g2 j) :
    (((List.range (a + 1)).map g1).take a ++ [((List.range (a + 1)).map g1).getD a [] ++ ((List.range (b + 1)).map g2).getD 0 []]) ++ ((List.range (b + 1)).map g2).drop 1 = (List.range (a + b + 1)).map g3 := by
  apply List.ext_getElem?
  intro i
  rcases Nat.lt_trichotomy i a with h | h | h
  · rw [List.getElem?_append_left (by simp; omega), List.getElem?_append_left (by simp; omega), List.getElem?_take_of_lt h, List.getElem?_map, List.getElem?_map, List.getElem?_range (by omega), List.getElem?_range (by omega)]
    simp [h1 i h]
  · subst h
    rw [List.getElem?_append_left (by simp), List.getElem?_append_right (by simp), List.getElem?_map, List.getElem?_range (by omega)]
    simp [h2]
  · rw [List.getElem?_append_right (by simp; omega), List.getElem?_map]
    by_cases hi : i < a + b + 1
    · rw [List.getElem?_range hi, List.getElem?_drop, List.getElem?_map, List.getElem?_range (by simp; omega)]
      have := h3 (i - a) (by omega) (by omega)
      rw [show a + (i - a) = i by omega] at this
      simp [this]
      congr 1; omega
    · rw [List.getElem?_eq_none (by simp; omega), List.getElem?_eq_none (by simp; omega)]; rfl

theorem rowsT_map (ls : List (List UInt8)) (k fl fc tl tc : Int) : ∀ n, rowsT ls k fl fc tl tc n = (List.range n).map fun i => rowT ls k fl fc tl tc (fl + (i : Nat))
  | 0 => rfl
  | n + 1 => by rw [rowsT, rowsT_map ls k fl fc tl tc n, List.range_succ, List.map_append]; rfl

theorem cut_cat {l : List UInt8} {a b c : Nat} (h1 : a ≤ b) (h2 : b ≤ c) : cutL l (some a) (some b) ++ cutL l (some b) (some c) = cutL l (some a) (some c) := by
  simp only [cutL]
  apply List.ext_getElem?
  intro i
  simp only [List.getElem?_append, List.getElem?_drop, List.getElem?_take, List.length_drop, List.length_take]
  by_cases hb : b ≤ l.length
  · rw [Nat.min_eq_left hb]
    by_cases hi : i < b - a
    · simp only [hi, if_true]
      rw [if_pos (by omega), if_pos (by omega)]
    · simp only [hi, if_false]
      rw [show b + (i - (b - a)) = a + i by omega]
  · rw [Nat.min_eq_right (by omega)]
    by_cases hi : i < l.length - a
    · simp only [hi, if_true]
      rw [if_pos (by omega), if_pos (by omega)]
    · simp only [hi, if_false]
      rw [List.getElem?_eq_none (by omega), List.getElem?_eq_none (by omega)]; simp

theorem validC {ls : List (List UInt8)} {fl fc tl tc : Int} (h1 : placeL ls fl fc = true) (h2 : placeL ls tl tc = true) (h3 : ltP tl tc fl fc = false) : validL ls 0 fl fc tl tc = true := by
  have a1 := of_decide_eq_true h1
  have a2 := of_decide_eq_true h2
  have a3 := of_decide_eq_false h3
  unfold validL
  rw [h1, h2, h3, decide_eq_true (by omega)]
  rfl

theorem textC {ls : List (List UInt8)} {fl fc tl tc : Int} (h : validL ls 0 fl fc tl tc = true) : textL ls 0 fl fc tl tc = (List.range ((tl - fl).toNat + 1)).map fun i => rowT ls 0 fl fc tl tc (fl + (i : Nat)) := by
  have h3 := (validL_spec h).1
  unfold textL
  rw [if_pos h, rowsT_map, show (tl - fl + 1).toNat = (tl - fl).toNat + 1 by omega]

theorem text_join {ls : List (List UInt8)} {x1 x2 y1 y2 z1 z2 : Int} (hx : placeL ls x1 x2 = true) (hy : placeL ls y1 y2 = true) (hz : placeL ls z1 z2 = true) (h1 : ltP y1 y2 x1 x2 = false) (h2 : ltP z1 z2 y1 y2 = false) {n : Int} (hn : n = ((textL ls 0 x1 x2 y1 y2).length : Int) - 1) :
    (cutL (textL ls 0 x1 x2 y1 y2) none (some n.toNat) ++ [(textL ls 0 x1 x2 y1 y2).getD n.toNat [] ++ (textL ls 0 y1 y2 z1 z2).getD 0 []]) ++ cutL (textL ls 0 y1 y2 z1 z2) (some 1) none = textL ls 0 x1 x2 z1 z2 := by
  have a1 := of_decide_eq_true hx
  have a2 := of_decide_eq_true hy
  have a3 := of_decide_eq_true hz
  have b1 := of_decide_eq_false h1
  have b2 := of_decide_eq_false h2
  have hxz : ltP z1 z2 x1 x2 = false := decide_eq_false (by omega)
  have v1 := validC hx hy h1
  have v2 := validC hy hz h2
  have v3 := validC hx hz hxz
  rw [textC v1] at hn
  simp only [List.length_map, List.length_range] at hn
  rw [textC v1, textC v2, textC v3, show n.toNat = (y1 - x1).toNat by omega, show (z1 - x1).toNat = (y1 - x1).toNat + (z1 - y1).toNat by omega]
  refine join_rows _ _ _ _ _ (fun i hi => ?_) ?_ (fun j hj hjb => ?_)
  · have e1 : colT ls 0 z1 z2 (x1 + (i : Nat)) = colT ls 0 y1 y2 (x1 + (i : Nat)) := by
      unfold colT; rw [if_pos rfl, if_pos rfl, if_neg (by omega), if_neg (by omega)]
    simp only [rowT, e1, colF]
  · have c1 := cols_ok v1 (i := y1) (by omega) (by omega)
    have c2 := cols_ok v2 (i := y1) (by omega) (by omega)
    have e1 : colF ls 0 x1 x2 y1 = colF ls 0 x1 x2 y1 := rfl
    have e2 : colT ls 0 y1 y2 y1 = y2 := by unfold colT; rw [if_pos rfl, if_pos rfl]
    have e3 : colF ls 0 y1 y2 y1 = y2 := by unfold colF; rw [if_pos rfl, if_pos rfl]
    rw [show x1 + (((y1 - x1).toNat : Nat) : Int) = y1 by omega, show y1 + ((0 : Nat) : Int) = y1 by omega]
    simp only [rowT, e2, e3]
    rw [e2] at c1
    rw [e3] at c2
    exact (cut_cat (by omega) (by omega)).symm
  · have e1 : colF ls 0 x1 x2 (y1 + (j : Nat)) = colF ls 0 y1 y2 (y1 + (j : Nat)) := by
      unfold colF; rw [if_pos rfl, if_pos rfl, if_neg (by omega), if_neg (by omega)]
    rw [show x1 + (((y1 - x1).toNat + j : Nat) : Int) = y1 + (j : Nat) by omega]
    simp only [rowT, e1, colT]

theorem text_small {ls : List (List UInt8)} (hl : ls.length ≤ 40) (hb : ∀ n : Nat, (ls.getD n []).length ≤ 1200) {fl fc tl tc : Int} (h : validL ls 0 fl fc tl tc = true) :
    0 < ((textL ls 0 fl fc tl tc).length : Int) ∧ (textL ls 0 fl fc tl tc).length ≤ 40 ∧ ∀ n : Nat, ((textL ls 0 fl fc tl tc).getD n []).length ≤ 1200 := by
  have h3 := (validL_spec h).1
  rw [textC h]
  refine ⟨by simp; omega, by simp; omega, fun n => ?_⟩
  rw [List.getD_eq_getElem?_getD, List.getElem?_map]
  by_cases hn : n < (tl - fl).toNat + 1
  · rw [List.getElem?_range hn]
    have := hb (fl + (n : Nat)).toNat
    simp only [Option.map_some, Option.getD_some, rowT, cutL, List.length_drop, List.length_take]
    omega
  · rw [List.getElem?_eq_none (by simp; omega)]; simp

set_option maxRecDepth 10000 in
set_option maxHeartbeats 8000000 in
theorem p4_walk (ls s t w : List (List UInt8)) (a b c d e f A1 A2 B1 B2 U1 U2 V1 V2 W1 W2 X1 X2 Y1 Y2 Z1 Z2 : Int) (q : Bool)
    (hL : ls.length ≤ 140737488355328) (hB : ∀ n : Nat, (ls.getD n []).length ≤ 140737488355328) (hok : (decide (0 < (ls.length : Int)) && lightL ls) = true)
    (k1 : Pure Try.prog 28 [.slS ls, .int .u16 a, .int .u16 b] (AV.agg [.int .i64 A1, .int .i64 A2])) (k2 : Pure Try.prog 28 [.slS ls, .int .u16 c, .int .u16 d] (AV.agg [.int .i64 B1, .int .i64 B2])) (k3 : Pure Try.prog 28 [.slS ls, .int .u16 e, .int .u16 f] (AV.agg [.int .i64 W1, .int .i64 W2]))
    (k4 : Pure Try.prog 23 [AV.agg [.int .i64 A1, .int .i64 A2], AV.agg [.int .i64 B1, .int .i64 B2]] (.tup [AV.agg [.int .i64 U1, .int .i64 U2], AV.agg [.int .i64 V1, .int .i64 V2]]))
    (k5 : Pure Try.prog 25 [AV.agg [.int .i64 W1, .int .i64 W2], AV.agg [.int .i64 V1, .int .i64 V2]] (.bool q))
    (hZ : q = true → Z1 = V1 ∧ Z2 = V2) (hZ' : q = false → Z1 = W1 ∧ Z2 = W2)
    (k6 : q = true → Pure Try.prog 23 [AV.agg [.int .i64 U1, .int .i64 U2], AV.agg [.int .i64 W1, .int .i64 W2]] (.tup [AV.agg [.int .i64 X1, .int .i64 X2], AV.agg [.int .i64 Y1, .int .i64 Y2]])) (k6' : q = false → Pure Try.prog 23 [AV.agg [.int .i64 U1, .int .i64 U2], AV.agg [.int .i64 V1, .int .i64 V2]] (.tup [AV.agg [.int .i64 X1, .int .i64 X2], AV.agg [.int .i64 Y1, .int .i64 Y2]]))
    (k7 : Pure Try.prog 29 [.slS ls, .agg [.int .i64 0, .int .i64 X1, .int .i64 X2, .int .i64 Y1, .int .i64 Y2]] (.slS s)) (k8 : Pure Try.prog 29 [.slS ls, .agg [.int .i64 0, .int .i64 Y1, .int .i64 Y2, .int .i64 Z1, .int .i64 Z2]] (.slS t)) (k9 : Pure Try.prog 29 [.slS ls, .agg [.int .i64 0, .int .i64 X1, .int .i64 X2, .int .i64 Z1, .int .i64 Z2]] (.slS w))
    (hs : 0 < (s.length : Int) ∧ s.length ≤ 40 ∧ ∀ n : Nat, (s.getD n []).length ≤ 1200) (ht : 0 < (t.length : Int) ∧ t.length ≤ 40 ∧ ∀ n : Nat, (t.getD n []).length ≤ 1200)
    (hj : (cutL s none (some ((s.length : Int) - 1).toNat) ++ [s.getD ((s.length : Int) - 1).toNat [] ++ t.getD 0 []]) ++ cutL t (some 1) none = w) :
    Pure Try.prog 4 [.slS ls, .int .u16 a, .int .u16 b, .int .u16 c, .int .u16 d, .int .u16 e, .int .u16 f] (.bool true) := by
  obtain ⟨hs1, hs2, hs3⟩ := hs
  obtain ⟨ht1, ht2, ht3⟩ := ht
  have hs4 := hs3 ((s.length : Int) - 1).toNat
  have ht4 := ht3 0
  have k27 := p27 ls hL hB
  rw [hok] at k27
  have k30 := p30 ((cutL s none (some ((s.length : Int) - 1).toNat) ++ [s.getD ((s.length : Int) - 1).toNat [] ++ t.getD 0 []]) ++ cutL t (some 1) none) w (by simp [cutL]; omega)
  rw [decide_eq_true hj] at k30
  cases q with
  | true =>
    obtain ⟨rfl, rfl⟩ := hZ rfl
    have k10 := k6 rfl
    clear hZ hZ' k6 k6'
    refine Pure.ofT tab_ok Try.func4 rfl rfl [.tmp 14] rfl (by decide) rfl ⟨101, 7, (.node (.node (.node (.node (.node (.node (.node (.leaf (.slS ls)) (J 0)) (J 1)) (J 2)) (J 3)) (.node (.node (.node (.node (.leaf (.int .u16 d)) (J 0)) (J 1)) (J 2)) (J 3))) (.node (.node (.node (.node (.node (.leaf (.int .u16 b)) (J 0)) (J 1)) (J 2)) (J 3)) (.node (.node (.node (.node (.leaf (.int .u16 f)) (J 0)) (J 1)) (J 2)) (J 3)))) (.node (.node (.node (.node (.node (.node (.leaf (.int .u16 a)) (J 0)) (J 1)) (J 2)) (J 3)) (.node (.node (.node (.node (.leaf (.int .u16 e)) (J 0)) (J 1)) (J 2)) (J 3))) (.node (.node (.node (.node (.node (.leaf (.int .u16 c)) (J 0)) (J 1)) (J 2)) (J 3)) (J 4)))), (OO 7)⟩ (by kernel_rfl) (by kernel_rfl) ?_
    repeat' (first
      | refine allProp_T ?_
      | exact trivial
      | (refine TRun.id ?_; first
          | refine TRun.nil ?_
          | refine TRun.many rfl rfl (by kernel_rfl) ?_ ?_
          | (refine TRun.toCall 22 rfl ?_; first
            | refine TRun.call rfl rfl rfl rfl p22 rfl rfl ?_ rfl ?_)
          | (refine TRun.toCall 27 rfl ?_; first
            | refine TRun.call rfl rfl rfl rfl k27 rfl rfl ?_ rfl ?_)
          | (refine TRun.toCall 28 rfl ?_; first
            | refine TRun.call rfl rfl rfl rfl k1 rfl rfl ?_ rfl ?_
            | refine TRun.call rfl rfl rfl rfl k2 rfl rfl ?_ rfl ?_
            | refine TRun.call rfl rfl rfl rfl k3 rfl rfl ?_ rfl ?_)
          | (refine TRun.toCall 23 rfl ?_; first
            | refine TRun.call rfl rfl rfl rfl k4 rfl rfl ?_ rfl ?_
            | refine TRun.call rfl rfl rfl rfl k10 rfl rfl ?_ rfl ?_)
          | (refine TRun.toCall 25 rfl ?_; first
            | refine TRun.call rfl rfl rfl rfl k5 rfl rfl ?_ rfl ?_)
          | (refine TRun.toCall 29 rfl ?_; first
            | refine TRun.call rfl rfl rfl rfl k7 rfl rfl ?_ rfl ?_
            | refine TRun.call rfl rfl rfl rfl k8 rfl rfl ?_ rfl ?_
            | refine TRun.call rfl rfl rfl rfl k9 rfl rfl ?_ rfl ?_)
          | (refine TRun.toCall 30 rfl ?_; first
            | refine TRun.call rfl rfl rfl rfl k30 rfl rfl ?_ rfl ?_)
          | refine TRun.same rfl rfl rfl ?_
          | refine TRun.same2 rfl rfl rfl ?_
          | refine TRun.yes rfl rfl (by omega) rfl ?_
          | refine TRun.no rfl rfl (by omega) rfl ?_
          | refine TRun.split rfl rfl rfl rfl (fun h => ?_) (fun h => ?_))
      | (refine HoldsT.id ?_; first
          | refine HoldsT.seq ?_
          | refine HoldsT.region tabs ?_
          | refine HoldsT.drawn tabs ?_
          | refine HoldsT.yes rfl ?_
          | refine HoldsT.no rfl ?_
          | refine HoldsT.cond rfl (fun h => ?_) (fun h => ?_)
          | refine HoldsT.block ?_
          | refine HoldsT.ret ?_
          | refine HoldsT.skip ?_
          | refine HoldsT.exit ?_)
      | (refine okTr_intro ?_; kernel_rfl)
      | exact absurd rfl h
      | refine allProp_C ?_ ?_
      | refine And.intro ?_ ?_
      | omega
      | (show _ < List.length _; omega)
      | exact rowlen_intro rfl
      | exact Nat.le_of_ble_eq_true rfl
      | (simp only [AV.rowlenD, AV.rowlen, AV.ncells, toN, Option.map_some, Option.map_none, cutL, List.length_take, List.length_drop, List.length_append, List.length_cons, List.length_nil, Option.some.injEq, Int.reduceToNat] <;> omega))
    exact FinC.te (y := .bool true) rfl rfl trivial rfl
  | false =>
    obtain ⟨rfl, rfl⟩ := hZ' rfl
    have k10 := k6' rfl
    clear hZ hZ' k6 k6'
    refine Pure.ofT tab_ok Try.func4 rfl rfl [.tmp 14] rfl (by decide) rfl ⟨101, 7, (.node (.node (.node (.node (.node (.node (.node (.leaf (.slS ls)) (J 0)) (J 1)) (J 2)) (J 3)) (.node (.node (.node (.node (.leaf (.int .u16 d)) (J 0)) (J 1)) (J 2)) (J 3))) (.node (.node (.node (.node (.node (.leaf (.int .u16 b)) (J 0)) (J 1)) (J 2)) (J 3)) (.node (.node (.node (.node (.leaf (.int .u16 f)) (J 0)) (J 1)) (J 2)) (J 3)))) (.node (.node (.node (.node (.node (.node (.leaf (.int .u16 a)) (J 0)) (J 1)) (J 2)) (J 3)) (.node (.node (.node (.node (.leaf (.int .u16 e)) (J 0)) (J 1)) (J 2)) (J 3))) (.node (.node (.node (.node (.node (.leaf (.int .u16 c)) (J 0)) (J 1)) (J 2)) (J 3)) (J 4)))), (OO 7)⟩ (by kernel_rfl) (by kernel_rfl) ?_
    repeat' (first
      | refine allProp_T ?_
      | exact trivial
      | (refine TRun.id ?_; first
          | refine TRun.nil ?_
          | refine TRun.many rfl rfl (by kernel_rfl) ?_ ?_
          | (refine TRun.toCall 22 rfl ?_; first
            | refine TRun.call rfl rfl rfl rfl p22 rfl rfl ?_ rfl ?_)
          | (refine TRun.toCall 27 rfl ?_; first
            | refine TRun.call rfl rfl rfl rfl k27 rfl rfl ?_ rfl ?_)
          | (refine TRun.toCall 28 rfl ?_; first
            | refine TRun.call rfl rfl rfl rfl k1 rfl rfl ?_ rfl ?_
            | refine TRun.call rfl rfl rfl rfl k2 rfl rfl ?_ rfl ?_
            | refine TRun.call rfl rfl rfl rfl k3 rfl rfl ?_ rfl ?_)
          | (refine TRun.toCall 23 rfl ?_; first
            | refine TRun.call rfl rfl rfl rfl k4 rfl rfl ?_ rfl ?_
            | refine TRun.call rfl rfl rfl rfl k10 rfl rfl ?_ rfl ?_)
          | (refine TRun.toCall 25 rfl ?_; first
            | refine TRun.call rfl rfl rfl rfl k5 rfl rfl ?_ rfl ?_)
          | (refine TRun.toCall 29 rfl ?_; first
            | refine TRun.call rfl rfl rfl rfl k7 rfl rfl ?_ rfl ?_
            | refine TRun.call rfl rfl rfl rfl k8 rfl rfl ?_ rfl ?_
            | refine TRun.call rfl rfl rfl rfl k9 rfl rfl ?_ rfl ?_)
          | (refine TRun.toCall 30 rfl ?_; first
            | refine TRun.call rfl rfl rfl rfl k30 rfl rfl ?_ rfl ?_)
          | refine TRun.same rfl rfl rfl ?_
          | refine TRun.same2 rfl rfl rfl ?_
          | refine TRun.yes rfl rfl (by omega) rfl ?_
          | refine TRun.no rfl rfl (by omega) rfl ?_
          | refine TRun.split rfl rfl rfl rfl (fun h => ?_) (fun h => ?_))
      | (refine HoldsT.id ?_; first
          | refine HoldsT.seq ?_
          | refine HoldsT.region tabs ?_
          | refine HoldsT.drawn tabs ?_
          | refine HoldsT.yes rfl ?_
          | refine HoldsT.no rfl ?_
          | refine HoldsT.cond rfl (fun h => ?_) (fun h => ?_)
          | refine HoldsT.block ?_
          | refine HoldsT.ret ?_
          | refine HoldsT.skip ?_
          | refine HoldsT.exit ?_)
      | (refine okTr_intro ?_; kernel_rfl)
      | exact absurd rfl h
      | refine allProp_C ?_ ?_
      | refine And.intro ?_ ?_
      | omega
      | (show _ < List.length _; omega)
      | exact rowlen_intro rfl
      | exact Nat.le_of_ble_eq_true rfl
      | (simp only [AV.rowlenD, AV.rowlen, AV.ncells, toN, Option.map_some, Option.map_none, cutL, List.length_take, List.length_drop, List.length_append, List.length_cons, List.length_nil, Option.some.injEq, Int.reduceToNat] <;> omega))
    exact FinC.te (y := .bool true) rfl rfl trivial rfl

set_option maxRecDepth 10000 in
set_option maxHeartbeats 8000000 in
theorem p4_no (ls : List (List UInt8)) (a b c d e f : Int) (hL : ls.length ≤ 140737488355328) (hB : ∀ n : Nat, (ls.getD n []).length ≤ 140737488355328) (hok : (decide (0 < (ls.length : Int)) && lightL ls) = false) :
    Pure Try.prog 4 [.slS ls, .int .u16 a, .int .u16 b, .int .u16 c, .int .u16 d, .int .u16 e, .int .u16 f] (.bool true) := by
  have k27 := p27 ls hL hB
  rw [hok] at k27
  refine Pure.ofT tab_ok Try.func4 rfl rfl [.tmp 14] rfl (by decide) rfl ⟨101, 7, (.node (.node (.node (.node (.node (.node (.node (.leaf (.slS ls)) (J 0)) (J 1)) (J 2)) (J 3)) (.node (.node (.node (.node (.leaf (.int .u16 d)) (J 0)) (J 1)) (J 2)) (J 3))) (.node (.node (.node (.node (.node (.leaf (.int .u16 b)) (J 0)) (J 1)) (J 2)) (J 3)) (.node (.node (.node (.node (.leaf (.int .u16 f)) (J 0)) (J 1)) (J 2)) (J 3)))) (.node (.node (.node (.node (.node (.node (.leaf (.int .u16 a)) (J 0)) (J 1)) (J 2)) (J 3)) (.node (.node (.node (.node (.leaf (.int .u16 e)) (J 0)) (J 1)) (J 2)) (J 3))) (.node (.node (.node (.node (.node (.leaf (.int .u16 c)) (J 0)) (J 1)) (J 2)) (J 3)) (J 4)))), (OO 7)⟩ (by kernel_rfl) (by kernel_rfl) ?_
  repeat' (first
    | refine allProp_T ?_
    | exact trivial
    | (refine TRun.id ?_; first
        | refine TRun.nil ?_
        | refine TRun.many rfl rfl (by kernel_rfl) ?_ ?_
        | (refine TRun.toCall 22 rfl ?_; first
          | refine TRun.call rfl rfl rfl rfl p22 rfl rfl ?_ rfl ?_)
        | (refine TRun.toCall 27 rfl ?_; first
          | refine TRun.call rfl rfl rfl rfl k27 rfl rfl ?_ rfl ?_)
        | refine TRun.same rfl rfl rfl ?_
        | refine TRun.same2 rfl rfl rfl ?_
        | refine TRun.split rfl rfl rfl rfl (fun h => ?_) (fun h => ?_))
    | (refine HoldsT.id ?_; first
        | refine HoldsT.seq ?_
        | refine HoldsT.region tabs ?_
        | refine HoldsT.drawn tabs ?_
        | refine HoldsT.yes rfl ?_
        | refine HoldsT.no rfl ?_
        | refine HoldsT.cond rfl (fun h => ?_) (fun h => ?_)
        | refine HoldsT.block ?_
        | refine HoldsT.ret ?_
        | refine HoldsT.skip ?_
        | refine HoldsT.exit ?_)
    | (refine okTr_intro ?_; kernel_rfl)
    | exact absurd rfl h
    | refine allProp_C ?_ ?_
    | refine And.intro ?_ ?_
    | omega
    | (show _ < List.length _; omega)
    | exact rowlen_intro rfl
    | exact Nat.le_of_ble_eq_true rfl
    | (simp only [AV.rowlenD, AV.rowlen, AV.ncells, toN, Option.map_some, Option.map_none, cutL, List.length_take, List.length_drop, List.length_append, List.length_cons, List.length_nil, Option.some.injEq, Int.reduceToNat] <;> omega))
  exact FinC.te (y := .bool true) rfl rfl trivial rfl

theorem ltP_of {a b c d : Int} (h : ltP a b c d = true) : a < c ∨ (a = c ∧ b < d) := of_decide_eq_true h
theorem ltP_not {a b c d : Int} (h : ltP a b c d = false) : ¬ (a < c ∨ (a = c ∧ b < d)) := of_decide_eq_false h
theorem ltP_mk {a b c d : Int} (h : ¬ (a < c ∨ (a = c ∧ b < d))) : ltP a b c d = false := decide_eq_false h

theorem p4 (ls : List (List UInt8)) (a b c d e f : Int) (hL : ls.length ≤ 140737488355328) (hB : ∀ n : Nat, (ls.getD n []).length ≤ 140737488355328) (ha : inK .u16 a) (hb : inK .u16 b) (hc : inK .u16 c) (hd : inK .u16 d) (he : inK .u16 e) (hf : inK .u16 f) :
    Pure Try.prog 4 [.slS ls, .int .u16 a, .int .u16 b, .int .u16 c, .int .u16 d, .int .u16 e, .int .u16 f] (.bool true) := by
  cases hok : (decide (0 < (ls.length : Int)) && lightL ls) with
  | false => exact p4_no ls a b c d e f hL hB hok
  | true =>
    obtain ⟨h0, hl, hr⟩ := light_len hok
    have key : ∀ {A1 A2 B1 B2 W1 W2 : Int}, placeL ls A1 A2 = true → placeL ls B1 B2 = true → placeL ls W1 W2 = true →
        Pure Try.prog 28 [.slS ls, .int .u16 a, .int .u16 b] (AV.agg [.int .i64 A1, .int .i64 A2]) → Pure Try.prog 28 [.slS ls, .int .u16 c, .int .u16 d] (AV.agg [.int .i64 B1, .int .i64 B2]) → Pure Try.prog 28 [.slS ls, .int .u16 e, .int .u16 f] (AV.agg [.int .i64 W1, .int .i64 W2]) →
        Pure Try.prog 4 [.slS ls, .int .u16 a, .int .u16 b, .int .u16 c, .int .u16 d, .int .u16 e, .int .u16 f] (.bool true) := by
      intro A1 A2 B1 B2 W1 W2 hA hB' hW k1 k2 k3
      -- the ordered pairs
      have ord : ∀ P1 P2 Q1 Q2 : Int, placeL ls P1 P2 = true → placeL ls Q1 Q2 = true → ∃ M1 M2 N1 N2 : Int, placeL ls M1 M2 = true ∧ placeL ls N1 N2 = true ∧ ltP N1 N2 M1 M2 = false ∧ ((M1 = P1 ∧ M2 = P2 ∧ N1 = Q1 ∧ N2 = Q2) ∨ (M1 = Q1 ∧ M2 = Q2 ∧ N1 = P1 ∧ N2 = P2)) ∧
          Pure Try.prog 23 [.agg [.int .i64 P1, .int .i64 P2], .agg [.int .i64 Q1, .int .i64 Q2]] (.tup [.agg [.int .i64 M1, .int .i64 M2], .agg [.int .i64 N1, .int .i64 N2]]) := by
        intro P1 P2 Q1 Q2 hP hQ
        have h := p23 P1 P2 Q1 Q2
        cases hlt : ltP Q1 Q2 P1 P2 with
        | true =>
          rw [hlt] at h
          exact ⟨_, _, _, _, hQ, hP, by have := ltP_of hlt; exact ltP_mk (by omega), .inr ⟨rfl, rfl, rfl, rfl⟩, h⟩
        | false =>
          rw [hlt] at h
          exact ⟨_, _, _, _, hP, hQ, hlt, .inl ⟨rfl, rfl, rfl, rfl⟩, h⟩
      have fin : ∀ {U1 U2 V1 V2 X1 X2 Y1 Y2 Z1 Z2 : Int} {q : Bool}, Pure Try.prog 23 [AV.agg [.int .i64 A1, .int .i64 A2], AV.agg [.int .i64 B1, .int .i64 B2]] (.tup [AV.agg [.int .i64 U1, .int .i64 U2], AV.agg [.int .i64 V1, .int .i64 V2]]) → Pure Try.prog 25 [AV.agg [.int .i64 W1, .int .i64 W2], AV.agg [.int .i64 V1, .int .i64 V2]] (.bool q) →
          (q = true → Z1 = V1 ∧ Z2 = V2) → (q = false → Z1 = W1 ∧ Z2 = W2) →
          (q = true → Pure Try.prog 23 [AV.agg [.int .i64 U1, .int .i64 U2], AV.agg [.int .i64 W1, .int .i64 W2]] (.tup [AV.agg [.int .i64 X1, .int .i64 X2], AV.agg [.int .i64 Y1, .int .i64 Y2]])) → (q = false → Pure Try.prog 23 [AV.agg [.int .i64 U1, .int .i64 U2], AV.agg [.int .i64 V1, .int .i64 V2]] (.tup [AV.agg [.int .i64 X1, .int .i64 X2], AV.agg [.int .i64 Y1, .int .i64 Y2]])) →
          placeL ls X1 X2 = true → placeL ls Y1 Y2 = true → placeL ls Z1 Z2 = true → ltP Y1 Y2 X1 X2 = false → ltP Z1 Z2 Y1 Y2 = false →
          Pure Try.prog 4 [.slS ls, .int .u16 a, .int .u16 b, .int .u16 c, .int .u16 d, .int .u16 e, .int .u16 f] (.bool true) := by
        intro U1 U2 V1 V2 X1 X2 Y1 Y2 Z1 Z2 q k4 k5 hZ hZ' k6 k6' hX hY hZp h1 h2
        exact p4_walk ls _ _ _ a b c d e f A1 A2 B1 B2 U1 U2 V1 V2 W1 W2 X1 X2 Y1 Y2 Z1 Z2 q hL hB hok k1 k2 k3 k4 k5 hZ hZ' k6 k6'
          (p29 ls 0 X1 X2 Y1 Y2 (by omega) (fun n => by have := hr n; omega)) (p29 ls 0 Y1 Y2 Z1 Z2 (by omega) (fun n => by have := hr n; omega)) (p29 ls 0 X1 X2 Z1 Z2 (by omega) (fun n => by have := hr n; omega))
          (text_small hl hr (validC hX hY h1)) (text_small hl hr (validC hY hZp h2)) (text_join hX hY hZp h1 h2 rfl)
      obtain ⟨U1, U2, V1, V2, hU, hV, hUV, _, k4⟩ := ord A1 A2 B1 B2 hA hB'
      have k5 := p25 W1 W2 V1 V2
      have n1 := ltP_not hUV
      cases hq : ltP W1 W2 V1 V2 with
      | true =>
        rw [hq] at k5
        obtain ⟨X1, X2, Y1, Y2, hX, hY, hXY, hc, k6⟩ := ord U1 U2 W1 W2 hU hW
        refine fin (Z1 := V1) (Z2 := V2) k4 k5 (fun _ => ⟨rfl, rfl⟩) (fun h => by cases h) (fun _ => k6) (fun h => by cases h) hX hY hV hXY ?_
        have := ltP_of hq
        exact ltP_mk (by omega)
      | false =>
        rw [hq] at k5
        obtain ⟨X1, X2, Y1, Y2, hX, hY, hXY, hc, k6⟩ := ord U1 U2 V1 V2 hU hV
        refine fin (Z1 := W1) (Z2 := W2) k4 k5 (fun h => by cases h) (fun _ => ⟨rfl, rfl⟩) (fun h => by cases h) (fun _ => k6) hX hY hW hXY ?_
        have := ltP_not hq
        have := ltP_not hXY
        exact ltP_mk (by omega)
    exact key (place_ok h0 ha.1 hb.1) (place_ok h0 hc.1 hd.1) (place_ok h0 he.1 hf.1) (p28 ls a b h0 ha hb hB) (p28 ls c d h0 hc hd hB) (p28 ls e f h0 he hf hB)

end Go.Proofs.Ytefbgdnobnemkaa.AM
