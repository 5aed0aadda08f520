/-
  Letters that are turned: the law.
-/
import Derived.Test.YtefbgdnobnemkaaF44
import Derived.Test.YtefbgdnobnemkaaF39
set_option linter.unusedSimpArgs false
set_option linter.unusedVariables false
set_option linter.unusedSectionVars false
namespace Go.Proofs.Ytefbgdnobnemkaa.AM
open Go Go.RowKit

theorem lenL_congr {x y : List (List UInt8)} (h : ∀ i : Nat, (x.getD i []).length = (y.getD i []).length) : lenL x = lenL y := funext fun i => by unfold lenL; rw [h]
theorem colF_congr {x y : List (List UInt8)} (h : ∀ i : Nat, (x.getD i []).length = (y.getD i []).length) : colF x = colF y := by
  funext k fl fc i; unfold colF; rw [lenL_congr h]
theorem colT_congr {x y : List (List UInt8)} (h : ∀ i : Nat, (x.getD i []).length = (y.getD i []).length) : colT x = colT y := by
  funext k tl tc i; unfold colT; rw [lenL_congr h]
theorem validL_congr {x y : List (List UInt8)} (hl : x.length = y.length) (h : ∀ i : Nat, (x.getD i []).length = (y.getD i []).length) : validL x = validL y := by
  funext k fl fc tl tc; unfold validL placeL; rw [hl, h, h]
theorem sum_getD (x : List (List UInt8)) : sumL x = sumF (fun i => (x.getD i []).length) x.length := by
  have h := sum_parts (ls := x) (a := 0) (n := x.length) (by omega) (by omega) (by omega)
  rw [h, List.drop_eq_nil_of_le (by omega)]
  simp [sumL]
theorem sumL_congr {x y : List (List UInt8)} (hl : x.length = y.length) (h : ∀ i : Nat, (x.getD i []).length = (y.getD i []).length) : sumL x = sumL y := by
  rw [sum_getD, sum_getD, hl]
  exact sumF_congr fun i _ => h i

theorem caseB_nat (up dn : Bool) (x : UInt8) : ((caseB up dn x).toNat : Int) = caseK up dn (x.toNat : Int) := by
  have h := case_in up dn (u8_in x)
  have h' : 0 ≤ caseK up dn (x.toNat : Int) ∧ caseK up dn (x.toNat : Int) ≤ 255 := h
  unfold caseB
  rw [UInt8.toNat_ofNat']
  omega
theorem not_small (x : UInt8) : ¬ (97 ≤ ((caseB true false x).toNat : Int) ∧ ((caseB true false x).toNat : Int) ≤ 122) := by
  rw [caseB_nat]
  unfold caseK smallK capK
  simp only [decide_eq_true_eq, true_and, Bool.false_eq_true, false_and, if_false]
  split <;> omega
theorem not_cap (x : UInt8) : ¬ (65 ≤ ((caseB false true x).toNat : Int) ∧ ((caseB false true x).toNat : Int) ≤ 90) := by
  rw [caseB_nat]
  unfold caseK smallK capK
  simp only [decide_eq_true_eq, true_and, Bool.false_eq_true, false_and, if_false]
  split <;> omega
theorem u8_ext {x y : UInt8} (h : (x.toNat : Int) = y.toNat) : x = y := UInt8.toNat_inj.1 (by omega)
theorem case_twice (up : Bool) (x : UInt8) : caseB up (!up) (caseB up (!up) x) = caseB up (!up) x := by
  apply u8_ext
  rw [caseB_nat, caseB_nat]
  unfold caseK smallK capK
  cases up <;> simp only [decide_eq_true_eq, true_and, Bool.false_eq_true, Bool.not_true, Bool.not_false, false_and, if_false] <;> (repeat' split) <;> omega
theorem turn_getD (f : UInt8 → UInt8) (s : List UInt8) (a b i : Nat) (h : i < s.length) : (turnL f s a b).getD i 0 = if a ≤ i ∧ i < b then f (s.getD i 0) else s.getD i 0 := by
  simp [turnL, List.getD_eq_getElem?_getD, h]
theorem turn_twice {f : UInt8 → UInt8} (hf : ∀ x, f (f x) = f x) (s : List UInt8) (a b : Nat) : turnL f (turnL f s a b) a b = turnL f s a b := by
  apply List.ext_getElem (by simp [turn_len])
  intro i h1 h2
  simp only [turnL, List.getElem_mapIdx]
  split
  · exact hf _
  · rfl

/-- A range whose letters are turned: what it is. -/
theorem case_facts {ls : List (List UInt8)} {k fl fc tl tc : Int} (up dn : Bool) (hv : validL ls k fl fc tl tc = true) {old new now : List (List UInt8)} (ho : old = midL ls fl (tl - fl + 1)) (hn : new = eachL (rowC up dn ls k fl fc tl tc) fl (tl - fl + 1).toNat) (hw : now = appL ls fl old new) :
    appOk ls fl old new = true ∧ now.length = ls.length ∧ (∀ i : Nat, (now.getD i []).length = (ls.getD i []).length) ∧ (∀ i : Nat, fl ≤ (i : Int) → (i : Int) ≤ tl → now.getD i [] = rowC up dn ls k fl fc tl tc i) := by
  obtain ⟨hv1, hv2⟩ := validL_spec hv
  subst ho hn hw
  obtain ⟨f1, f2, f3⟩ := app_each (F := rowC up dn ls k fl fc tl tc) hv1.1 hv1.2.1 hv1.2.2
  refine ⟨f1, f2, fun i => ?_, fun i h1 h2 => ?_⟩
  · rw [f3 i]
    split
    · unfold rowC
      rw [turn_len]
      simp
    · rfl
  · rw [f3 i, if_pos ⟨h1, h2⟩]

theorem case_again {ls : List (List UInt8)} {k fl fc tl tc : Int} (up : Bool) (hv : validL ls k fl fc tl tc = true) {now : List (List UInt8)} (hl : now.length = ls.length) (h1 : ∀ i : Nat, (now.getD i []).length = (ls.getD i []).length) (h2 : ∀ i : Nat, fl ≤ (i : Int) → (i : Int) ≤ tl → now.getD i [] = rowC up (!up) ls k fl fc tl tc i) :
    eachL (rowC up (!up) now k fl fc tl tc) fl (tl - fl + 1).toNat = midL now fl (tl - fl + 1) := by
  obtain ⟨hv1, hv2⟩ := validL_spec hv
  rw [eachL_map, mid_map hv1.1 (by omega) (by omega)]
  apply List.map_congr_left
  intro i hi
  have hi := List.mem_range.1 hi
  have e := h2 (fl + (i : Nat)).toNat (by omega) (by omega)
  unfold rowC
  rw [colF_congr h1, colT_congr h1, e]
  unfold rowC
  rw [show ((fl + (i : Nat)).toNat : Int) = fl + (i : Nat) by omega]
  exact turn_twice (case_twice up) _ _ _

theorem case_text {ls : List (List UInt8)} {k fl fc tl tc : Int} (up dn : Bool) (hv : validL ls k fl fc tl tc = true) {now : List (List UInt8)} (hl : now.length = ls.length) (h1 : ∀ i : Nat, (now.getD i []).length = (ls.getD i []).length) (h2 : ∀ i : Nat, fl ≤ (i : Int) → (i : Int) ≤ tl → now.getD i [] = rowC up dn ls k fl fc tl tc i) :
    ∀ i j : Nat, i < (textL now k fl fc tl tc).length → j < ((textL now k fl fc tl tc).getD i []).length → ∃ x, ((textL now k fl fc tl tc).getD i []).getD j 0 = caseB up dn x := by
  have hv' : validL now k fl fc tl tc = true := by rw [validL_congr hl h1]; exact hv
  obtain ⟨hv1, hv2⟩ := validL_spec hv
  intro i j
  unfold textL
  rw [if_pos hv', rowsT_map]
  intro hi
  simp only [List.length_map, List.length_range] at hi
  have e0 : ((List.range (tl - fl + 1).toNat).map fun i => rowT now k fl fc tl tc (fl + (i : Nat))).getD i [] = rowT now k fl fc tl tc (fl + (i : Nat)) := by
    rw [List.getD_eq_getElem?_getD, List.getElem?_map, List.getElem?_range hi]; rfl
  rw [e0]
  obtain ⟨q1, q2, q3⟩ := cols_ok hv (i := fl + (i : Nat)) (by omega) (by omega)
  have q3 : colT ls k tl tc (fl + (i : Nat)) ≤ ((ls.getD (fl + (i : Nat)).toNat []).length : Int) := q3
  have e := h2 (fl + (i : Nat)).toNat (by omega) (by omega)
  rw [show ((fl + (i : Nat)).toNat : Int) = fl + (i : Nat) by omega] at e
  unfold rowT
  rw [colF_congr h1, colT_congr h1, e]
  unfold rowC
  generalize ls.getD (fl + (i : Nat)).toNat [] = s at *
  generalize colF ls k fl fc (fl + (i : Nat)) = p at *
  generalize colT ls k tl tc (fl + (i : Nat)) = q at *
  intro hj
  have hj' : j < q.toNat - p.toNat := by simp only [cutL, List.length_drop, List.length_take, turn_len] at hj; omega
  refine ⟨s.getD (p.toNat + j) 0, ?_⟩
  have e2 : (cutL (turnL (caseB up dn) s p.toNat q.toNat) (some p.toNat) (some q.toNat)).getD j 0 = (turnL (caseB up dn) s p.toNat q.toNat).getD (p.toNat + j) 0 := by
    simp only [cutL, List.getD_eq_getElem?_getD, List.getElem?_drop]
    rw [List.getElem?_take_of_lt (by omega)]
  rw [e2, turn_getD _ _ _ _ _ (by omega), if_pos (by omega)]

set_option maxRecDepth 10000 in
set_option maxHeartbeats 8000000 in
theorem p16ca (ls : List (List UInt8)) (kd a b c d : Int) (hL : ls.length ≤ 140737488355328) (hB : ∀ n : Nat, (ls.getD n []).length ≤ 140737488355328) (hkd : inK .u8 kd) (ha : inK .u16 a) (hb : inK .u16 b) (hc : inK .u16 c) (hd : inK .u16 d) : Pure Try.prog 16 [.slS ls, .int .u8 kd, .int .u16 a, .int .u16 b, .int .u16 c, .int .u16 d, .bool true] (.bool true) := by
  have k27 := p27 ls hL hB
  cases hok : (decide (0 < (ls.length : Int)) && lightL ls) with
  | false =>
    rw [hok] at k27
    refine Pure.ofT tab2_ok Try.func16 rfl rfl [.tmp 14] rfl (by decide) rfl ⟨137, 8, (.node (.node (.node (.node (.node (.node (.node (.node (.leaf (.slS ls)) (J 0)) (J 1)) (J 2)) (J 3)) (J 4)) (.node (.node (.node (.node (.node (.leaf (.int .u16 c)) (J 0)) (J 1)) (J 2)) (J 3)) (J 4))) (.node (.node (.node (.node (.node (.node (.leaf (.int .u16 a)) (J 0)) (J 1)) (J 2)) (J 3)) (J 4)) (.node (.node (.node (.node (.node (.leaf (.bool true)) (J 0)) (J 1)) (J 2)) (J 3)) (J 4)))) (.node (.node (.node (.node (.node (.node (.node (.leaf (.int .u8 kd)) (J 0)) (J 1)) (J 2)) (J 3)) (J 4)) (.node (.node (.node (.node (.node (.leaf (.int .u16 d)) (J 0)) (J 1)) (J 2)) (J 3)) (J 4))) (.node (.node (.node (.node (.node (.node (.leaf (.int .u16 b)) (J 0)) (J 1)) (J 2)) (J 3)) (J 4)) (J 5)))), (OO 8)⟩ (by kernel_rfl) (by kernel_rfl) ?_
    repeat' (first
      | refine allProp_T ?_
      | exact trivial
      | (refine URun.id ?_; first
          | refine URun.nil ?_
          | refine URun.many tabs2 rfl rfl (by kernel_rfl) ?_ ?_
          | (refine URun.toCall 45 rfl ?_; first
            | refine URun.call tabs2 rfl rfl rfl rfl p45 rfl rfl ?_ rfl ?_)
          | (refine URun.toCall 27 rfl ?_; first
            | refine URun.call tabs2 rfl rfl rfl rfl k27 rfl rfl ?_ rfl ?_)
          | refine URun.same tabs2 rfl rfl rfl ?_
          | refine URun.same2 tabs2 rfl rfl rfl ?_
          | refine URun.split tabs2 rfl rfl rfl rfl (fun h => ?_) (fun h => ?_))
      | (refine TRun.id ?_; first
          | refine TRun.nil ?_
          | refine TRun.many rfl rfl (by kernel_rfl) ?_ ?_
          | (refine TRun.toCall 45 rfl ?_; first
            | refine TRun.call rfl rfl rfl rfl p45 rfl rfl ?_ rfl ?_)
          | (refine TRun.toCall 27 rfl ?_; first
            | refine TRun.call rfl rfl rfl rfl k27 rfl rfl ?_ rfl ?_)
          | refine TRun.same rfl rfl rfl ?_
          | refine TRun.same2 rfl rfl rfl ?_
          | refine TRun.split rfl rfl rfl rfl (fun h => ?_) (fun h => ?_))
      | (refine HoldsT.id ?_; first
          | refine HoldsT.seq ?_
          | refine HoldsT.regionU ?_
          | refine HoldsT.drawn tabs2 ?_
          | refine HoldsT.yes rfl ?_
          | refine HoldsT.no rfl ?_
          | refine HoldsT.cond rfl (fun h => ?_) (fun h => ?_)
          | refine HoldsT.block ?_
          | refine HoldsT.ret ?_
          | refine HoldsT.skip ?_
          | refine HoldsT.exit ?_)
      | (refine okTr_intro ?_; kernel_rfl)
      | exact absurd rfl h
      | refine allProp_C ?_ ?_
      | refine And.intro ?_ ?_
      | omega
      | (show _ < List.length _; omega)
      | exact rowlen_intro rfl
      | exact lenEq_intro rfl
      | exact Nat.le_of_ble_eq_true rfl
      | (simp only [AV.rowlenD, AV.rowlen, AV.ncells, mulSz, toN, Option.map_some, Option.map_none, cutL, List.length_take, List.length_drop, List.length_append, List.length_cons, List.length_nil, List.length_set, Option.some.injEq, Int.reduceToNat] <;> omega))
    all_goals exact FinC.te (y := .bool true) rfl rfl trivial rfl
  | true =>
    rw [hok] at k27
    obtain ⟨h0, hl, hr⟩ := light_len hok
    have hsum : sumL ls ≤ 1200 := by
      simp only [lightL, Bool.and_eq_true, decide_eq_true_eq] at hok
      exact hok.2.1.2
    have k46 := p46 ls kd a b c d (by omega) h0 hkd ha hb hc hd (fun n => by have := hr n; omega)
    have hv := (rg_valid ls kd a b c d h0 hkd.1 ha.1 hb.1 hc.1 hd.1).1
    rcases hrg : rgL ls kd a b c d with ⟨k, fl, fc, tl, tc⟩
    rw [hrg] at k46 hv
    have k46 : Pure Try.prog 46 [.slS ls, .int .u8 kd, .int .u16 a, .int .u16 b, .int .u16 c, .int .u16 d] (.agg [.int .i64 k, .int .i64 fl, .int .i64 fc, .int .i64 tl, .int .i64 tc]) := k46
    simp only at hv
    obtain ⟨v1, v2⟩ := validL_spec hv
    obtain ⟨old, ho⟩ : ∃ x, x = midL ls fl (tl - fl + 1) := ⟨_, rfl⟩
    obtain ⟨new, hn⟩ : ∃ x, x = eachL (rowC true false ls k fl fc tl tc) fl (tl - fl + 1).toNat := ⟨_, rfl⟩
    obtain ⟨now, hw⟩ : ∃ x, x = appL ls fl old new := ⟨_, rfl⟩
    have k69 := p69ca ls k fl fc tl tc 1 (by omega) (fun n => by have := hr n; omega) hv
    rw [← ho, ← hn] at k69
    have hol : (old.length : Int) = tl - fl + 1 := by rw [ho]; exact mid_len v1.1 (by omega) (by omega)
    have hnl : new.length = (tl - fl + 1).toNat := by rw [hn]; exact eachL_length _ _ _
    obtain ⟨f1, f2, f3, f4⟩ := case_facts true false hv ho hn hw
    have hs : ∀ n : Nat, (now.getD n []).length ≤ 1200 := fun n => by rw [f3]; exact hr n
    have k48 := p48ca ls k fl fc tl tc 1 (by omega) (fun n => by have := hr n; omega) hv fl old new (by omega) (by omega) (by rw [← hw]; omega) (fun n => by rw [← hw]; have := hs n; omega) (by rw [← hw]; omega) f1 k69
    have k41 := p41 ls old new fl (by omega) (by omega) (by omega)
    rw [f1, ← hw] at k41
    have hv2 : validL now k fl fc tl tc = true := by rw [validL_congr f2 f3]; exact hv
    have ht := case_text true false hv f2 f3 f4
    have k51 := p51 now k fl fc tl tc (by omega) (fun n => by have := hs n; omega)
    have htl : (textL now k fl fc tl tc).length ≤ 1000000 := by
      unfold textL
      rw [if_pos hv2, rowsT_length]; omega
    have htB : ∀ n : Nat, ((textL now k fl fc tl tc).getD n []).length ≤ 1000000 := fun n => by
      unfold textL
      rw [if_pos hv2, rowsT_map, List.getD_eq_getElem?_getD, List.getElem?_map]
      by_cases hn : n < (tl - fl + 1).toNat
      · rw [List.getElem?_range hn]
        have := hs (fl + (n : Nat)).toNat
        simp only [Option.map_some, Option.getD_some, rowT, cutL, List.length_drop, List.length_take]; omega
      · rw [List.getElem?_eq_none (by simp; omega)]; simp
    generalize textL now k fl fc tl tc = t at *
    obtain ⟨old2, ho2⟩ : ∃ x, x = midL now fl (tl - fl + 1) := ⟨_, rfl⟩
    have k69b := p69ca now k fl fc tl tc 1 (by omega) (fun n => by have := hs n; omega) hv2
    have hag : eachL (rowC true false now k fl fc tl tc) fl (tl - fl + 1).toNat = midL now fl (tl - fl + 1) := case_again true hv f2 f3 f4
    obtain ⟨e1, e2, e3, _⟩ := case_facts true false hv2 ho2 (by rw [hag]; exact ho2) (rfl : appL now fl old2 old2 = _)
    rw [hag, ← ho2] at k69b
    have hol2 : (old2.length : Int) = tl - fl + 1 := by rw [ho2]; exact mid_len v1.1 (by omega) (by omega)
    have k48b := p48ca now k fl fc tl tc 1 (by omega) (fun n => by have := hs n; omega) hv2 fl old2 old2 (by omega) (by omega) (by omega) (fun n => by rw [e3]; have := hs n; omega) (by omega) e1 k69b
    have k30 := p30 old2 old2 (by omega)
    rw [decide_eq_true rfl] at k30
    have hsz : sumL now = sumL ls := sumL_congr f2 f3
    have k33a := p33 ls (by omega) (by omega)
    have k33b := p33 now (by omega) (by omega)
    have e4 : sizeL now = sizeL ls := by unfold sizeL; omega
    rw [e4] at k33b
    exact p16caw ls kd a b c d k fl fc tl tc fl fl _ _ _ _ (sizeL ls) old new old2 now t f2 (by omega) htl htB (fun i j h1 h2 => by obtain ⟨x, hx⟩ := ht i j h1 h2; rw [hx]; exact not_small x) k27 k46 k48 k41 k51 k48b k30 k33a k33b

set_option maxRecDepth 10000 in
set_option maxHeartbeats 8000000 in
theorem p16sm (ls : List (List UInt8)) (kd a b c d : Int) (hL : ls.length ≤ 140737488355328) (hB : ∀ n : Nat, (ls.getD n []).length ≤ 140737488355328) (hkd : inK .u8 kd) (ha : inK .u16 a) (hb : inK .u16 b) (hc : inK .u16 c) (hd : inK .u16 d) : Pure Try.prog 16 [.slS ls, .int .u8 kd, .int .u16 a, .int .u16 b, .int .u16 c, .int .u16 d, .bool false] (.bool true) := by
  have k27 := p27 ls hL hB
  cases hok : (decide (0 < (ls.length : Int)) && lightL ls) with
  | false =>
    rw [hok] at k27
    refine Pure.ofT tab2_ok Try.func16 rfl rfl [.tmp 14] rfl (by decide) rfl ⟨137, 8, (.node (.node (.node (.node (.node (.node (.node (.node (.leaf (.slS ls)) (J 0)) (J 1)) (J 2)) (J 3)) (J 4)) (.node (.node (.node (.node (.node (.leaf (.int .u16 c)) (J 0)) (J 1)) (J 2)) (J 3)) (J 4))) (.node (.node (.node (.node (.node (.node (.leaf (.int .u16 a)) (J 0)) (J 1)) (J 2)) (J 3)) (J 4)) (.node (.node (.node (.node (.node (.leaf (.bool false)) (J 0)) (J 1)) (J 2)) (J 3)) (J 4)))) (.node (.node (.node (.node (.node (.node (.node (.leaf (.int .u8 kd)) (J 0)) (J 1)) (J 2)) (J 3)) (J 4)) (.node (.node (.node (.node (.node (.leaf (.int .u16 d)) (J 0)) (J 1)) (J 2)) (J 3)) (J 4))) (.node (.node (.node (.node (.node (.node (.leaf (.int .u16 b)) (J 0)) (J 1)) (J 2)) (J 3)) (J 4)) (J 5)))), (OO 8)⟩ (by kernel_rfl) (by kernel_rfl) ?_
    repeat' (first
      | refine allProp_T ?_
      | exact trivial
      | (refine URun.id ?_; first
          | refine URun.nil ?_
          | refine URun.many tabs2 rfl rfl (by kernel_rfl) ?_ ?_
          | (refine URun.toCall 45 rfl ?_; first
            | refine URun.call tabs2 rfl rfl rfl rfl p45 rfl rfl ?_ rfl ?_)
          | (refine URun.toCall 27 rfl ?_; first
            | refine URun.call tabs2 rfl rfl rfl rfl k27 rfl rfl ?_ rfl ?_)
          | refine URun.same tabs2 rfl rfl rfl ?_
          | refine URun.same2 tabs2 rfl rfl rfl ?_
          | refine URun.split tabs2 rfl rfl rfl rfl (fun h => ?_) (fun h => ?_))
      | (refine TRun.id ?_; first
          | refine TRun.nil ?_
          | refine TRun.many rfl rfl (by kernel_rfl) ?_ ?_
          | (refine TRun.toCall 45 rfl ?_; first
            | refine TRun.call rfl rfl rfl rfl p45 rfl rfl ?_ rfl ?_)
          | (refine TRun.toCall 27 rfl ?_; first
            | refine TRun.call rfl rfl rfl rfl k27 rfl rfl ?_ rfl ?_)
          | refine TRun.same rfl rfl rfl ?_
          | refine TRun.same2 rfl rfl rfl ?_
          | refine TRun.split rfl rfl rfl rfl (fun h => ?_) (fun h => ?_))
      | (refine HoldsT.id ?_; first
          | refine HoldsT.seq ?_
          | refine HoldsT.regionU ?_
          | refine HoldsT.drawn tabs2 ?_
          | refine HoldsT.yes rfl ?_
          | refine HoldsT.no rfl ?_
          | refine HoldsT.cond rfl (fun h => ?_) (fun h => ?_)
          | refine HoldsT.block ?_
          | refine HoldsT.ret ?_
          | refine HoldsT.skip ?_
          | refine HoldsT.exit ?_)
      | (refine okTr_intro ?_; kernel_rfl)
      | exact absurd rfl h
      | refine allProp_C ?_ ?_
      | refine And.intro ?_ ?_
      | omega
      | (show _ < List.length _; omega)
      | exact rowlen_intro rfl
      | exact lenEq_intro rfl
      | exact Nat.le_of_ble_eq_true rfl
      | (simp only [AV.rowlenD, AV.rowlen, AV.ncells, mulSz, toN, Option.map_some, Option.map_none, cutL, List.length_take, List.length_drop, List.length_append, List.length_cons, List.length_nil, List.length_set, Option.some.injEq, Int.reduceToNat] <;> omega))
    all_goals exact FinC.te (y := .bool true) rfl rfl trivial rfl
  | true =>
    rw [hok] at k27
    obtain ⟨h0, hl, hr⟩ := light_len hok
    have hsum : sumL ls ≤ 1200 := by
      simp only [lightL, Bool.and_eq_true, decide_eq_true_eq] at hok
      exact hok.2.1.2
    have k46 := p46 ls kd a b c d (by omega) h0 hkd ha hb hc hd (fun n => by have := hr n; omega)
    have hv := (rg_valid ls kd a b c d h0 hkd.1 ha.1 hb.1 hc.1 hd.1).1
    rcases hrg : rgL ls kd a b c d with ⟨k, fl, fc, tl, tc⟩
    rw [hrg] at k46 hv
    have k46 : Pure Try.prog 46 [.slS ls, .int .u8 kd, .int .u16 a, .int .u16 b, .int .u16 c, .int .u16 d] (.agg [.int .i64 k, .int .i64 fl, .int .i64 fc, .int .i64 tl, .int .i64 tc]) := k46
    simp only at hv
    obtain ⟨v1, v2⟩ := validL_spec hv
    obtain ⟨old, ho⟩ : ∃ x, x = midL ls fl (tl - fl + 1) := ⟨_, rfl⟩
    obtain ⟨new, hn⟩ : ∃ x, x = eachL (rowC false true ls k fl fc tl tc) fl (tl - fl + 1).toNat := ⟨_, rfl⟩
    obtain ⟨now, hw⟩ : ∃ x, x = appL ls fl old new := ⟨_, rfl⟩
    have k69 := p69sm ls k fl fc tl tc 1 (by omega) (fun n => by have := hr n; omega) hv
    rw [← ho, ← hn] at k69
    have hol : (old.length : Int) = tl - fl + 1 := by rw [ho]; exact mid_len v1.1 (by omega) (by omega)
    have hnl : new.length = (tl - fl + 1).toNat := by rw [hn]; exact eachL_length _ _ _
    obtain ⟨f1, f2, f3, f4⟩ := case_facts false true hv ho hn hw
    have hs : ∀ n : Nat, (now.getD n []).length ≤ 1200 := fun n => by rw [f3]; exact hr n
    have k48 := p48sm ls k fl fc tl tc 1 (by omega) (fun n => by have := hr n; omega) hv fl old new (by omega) (by omega) (by rw [← hw]; omega) (fun n => by rw [← hw]; have := hs n; omega) (by rw [← hw]; omega) f1 k69
    have k41 := p41 ls old new fl (by omega) (by omega) (by omega)
    rw [f1, ← hw] at k41
    have hv2 : validL now k fl fc tl tc = true := by rw [validL_congr f2 f3]; exact hv
    have ht := case_text false true hv f2 f3 f4
    have k51 := p51 now k fl fc tl tc (by omega) (fun n => by have := hs n; omega)
    have htl : (textL now k fl fc tl tc).length ≤ 1000000 := by
      unfold textL
      rw [if_pos hv2, rowsT_length]; omega
    have htB : ∀ n : Nat, ((textL now k fl fc tl tc).getD n []).length ≤ 1000000 := fun n => by
      unfold textL
      rw [if_pos hv2, rowsT_map, List.getD_eq_getElem?_getD, List.getElem?_map]
      by_cases hn : n < (tl - fl + 1).toNat
      · rw [List.getElem?_range hn]
        have := hs (fl + (n : Nat)).toNat
        simp only [Option.map_some, Option.getD_some, rowT, cutL, List.length_drop, List.length_take]; omega
      · rw [List.getElem?_eq_none (by simp; omega)]; simp
    generalize textL now k fl fc tl tc = t at *
    obtain ⟨old2, ho2⟩ : ∃ x, x = midL now fl (tl - fl + 1) := ⟨_, rfl⟩
    have k69b := p69sm now k fl fc tl tc 1 (by omega) (fun n => by have := hs n; omega) hv2
    have hag : eachL (rowC false true now k fl fc tl tc) fl (tl - fl + 1).toNat = midL now fl (tl - fl + 1) := case_again false hv f2 f3 f4
    obtain ⟨e1, e2, e3, _⟩ := case_facts false true hv2 ho2 (by rw [hag]; exact ho2) (rfl : appL now fl old2 old2 = _)
    rw [hag, ← ho2] at k69b
    have hol2 : (old2.length : Int) = tl - fl + 1 := by rw [ho2]; exact mid_len v1.1 (by omega) (by omega)
    have k48b := p48sm now k fl fc tl tc 1 (by omega) (fun n => by have := hs n; omega) hv2 fl old2 old2 (by omega) (by omega) (by omega) (fun n => by rw [e3]; have := hs n; omega) (by omega) e1 k69b
    have k30 := p30 old2 old2 (by omega)
    rw [decide_eq_true rfl] at k30
    have hsz : sumL now = sumL ls := sumL_congr f2 f3
    have k33a := p33 ls (by omega) (by omega)
    have k33b := p33 now (by omega) (by omega)
    have e4 : sizeL now = sizeL ls := by unfold sizeL; omega
    rw [e4] at k33b
    exact p16smw ls kd a b c d k fl fc tl tc fl fl _ _ _ _ (sizeL ls) old new old2 now t f2 (by omega) htl htB (fun i j h1 h2 => by obtain ⟨x, hx⟩ := ht i j h1 h2; rw [hx]; exact not_cap x) k27 k46 k48 k41 k51 k48b k30 k33a k33b

theorem p16 (ls : List (List UInt8)) (kd a b c d : Int) (u : Bool) (hL : ls.length ≤ 140737488355328) (hB : ∀ n : Nat, (ls.getD n []).length ≤ 140737488355328) (hkd : inK .u8 kd) (ha : inK .u16 a) (hb : inK .u16 b) (hc : inK .u16 c) (hd : inK .u16 d) : Pure Try.prog 16 [.slS ls, .int .u8 kd, .int .u16 a, .int .u16 b, .int .u16 c, .int .u16 d, .bool u] (.bool true) := by
  cases u with
  | true => exact p16ca ls kd a b c d hL hB hkd ha hb hc hd
  | false => exact p16sm ls kd a b c d hL hB hkd ha hb hc hd

end Go.Proofs.Ytefbgdnobnemkaa.AM
