/-
  What comes back: the law.
-/
import Derived.Test.YtefbgdnobnemkaaDoorD11
import Derived.Test.YtefbgdnobnemkaaDoorD4
set_option linter.unusedSimpArgs false
set_option linter.unusedVariables false
set_option linter.unusedSectionVars false
namespace Go.Proofs.YtefbgdnobnemkaaDoor.AM
open Go Go.RowKit

/-- Lines that are shifted to the right and back by the left are as they were. -/
theorem shift_undone {ls now : List (List UInt8)} {fl tl n : Int} (h0 : 0 ≤ fl) (h1 : fl ≤ tl) (h2 : tl < ls.length) (hn : 0 ≤ n) (hl : now.length = ls.length) (hg : ∀ i : Nat, fl ≤ (i : Int) → (i : Int) ≤ tl → now.getD i [] = shF false (ls.getD i []) n) :
    eachL (fun i => shF true (now.getD i.toNat []) n) fl (tl - fl + 1).toNat = midL ls fl (tl - fl + 1) := by
  rw [eachL_map, mid_map h0 (by omega) (by omega)]
  apply List.map_congr_left
  intro i hi
  have hi := List.mem_range.1 hi
  show shF true (now.getD (fl + (i : Nat)).toNat []) n = _
  rw [hg (fl + (i : Nat)).toNat (by omega) (by omega)]
  exact shift_back hn
theorem shR_len (s : List UInt8) {n : Int} (h0 : 0 ≤ n) (h1 : n ≤ 100) : (shR s n).length ≤ s.length + 400 := by
  unfold shR
  split
  · simp
  · rw [List.length_append, spc_len]; omega
set_option maxRecDepth 10000 in
set_option maxHeartbeats 8000000 in
theorem q8w (ls o w now o2 u now2 o3 : List (List UInt8)) (kd a b c d m k fl fc tl tc : Int) (hm : 0 ≤ m ∧ m ≤ 255)
    (k27 : Pure Tryd.prog 10 [.slS ls] (.bool true)) (k46 : Pure Tryd.prog 23 [.slS ls, .int .u8 kd, .int .u16 a, .int .u16 b, .int .u16 c, .int .u16 d] (.agg [.int .i64 k, .int .i64 fl, .int .i64 fc, .int .i64 tl, .int .i64 tc]))
    (k26 : Pure Tryd.prog 26 [.slS ls, .int .i64 fl, .int .i64 tl, .int .i64 (m.tmod 3 + 1), .bool false] (.tup [.agg [.int .i64 fl, .slS o, .slS w], .bool true]))
    (k21 : Pure Tryd.prog 21 [.slS ls, .slG 3 [.int .i64 fl, .slS o, .slS w]] (.tup [.slS now, .bool true]))
    (k26b : Pure Tryd.prog 26 [.slS now, .int .i64 fl, .int .i64 tl, .int .i64 (m.tmod 3 + 1), .bool true] (.tup [.agg [.int .i64 fl, .slS o2, .slS o], .bool true]))
    (k29 : Pure Tryd.prog 29 [.slS ls, .agg [.int .i64 k, .int .i64 fl, .int .i64 fc, .int .i64 tl, .int .i64 tc], .str [126]] (.tup [.agg [.int .i64 fl, .slS o, .slS u], .bool true]))
    (k21b : Pure Tryd.prog 21 [.slS ls, .slG 3 [.int .i64 fl, .slS o, .slS u]] (.tup [.slS now2, .bool true]))
    (k29b : Pure Tryd.prog 29 [.slS now2, .agg [.int .i64 k, .int .i64 fl, .int .i64 fc, .int .i64 tl, .int .i64 tc], .str [126]] (.tup [.agg [.int .i64 fl, .slS o3, .slS o], .bool true]))
    (k28 : Pure Tryd.prog 28 [.slS o, .slS o] (.bool true)) :
    Pure Tryd.prog 8 [.slS ls, .int .u8 kd, .int .u16 a, .int .u16 b, .int .u16 c, .int .u16 d, .int .u8 m] (.bool true) := by
  have hm3 := tmod_in hm.1 (show (0 : Int) < 3 by omega)
  refine Pure.ofT tab2_ok Tryd.func8 rfl rfl [.tmp 14] rfl (by decide) rfl ⟨124, 7, (.node (.node (.node (.node (.node (.node (.node (.leaf (.slS ls)) (J 0)) (J 1)) (J 2)) (J 3)) (.node (.node (.node (.node (.leaf (.int .u16 c)) (J 0)) (J 1)) (J 2)) (J 3))) (.node (.node (.node (.node (.node (.leaf (.int .u16 a)) (J 0)) (J 1)) (J 2)) (J 3)) (.node (.node (.node (.node (.leaf (.int .u8 m)) (J 0)) (J 1)) (J 2)) (J 3)))) (.node (.node (.node (.node (.node (.node (.leaf (.int .u8 kd)) (J 0)) (J 1)) (J 2)) (J 3)) (.node (.node (.node (.node (.leaf (.int .u16 d)) (J 0)) (J 1)) (J 2)) (J 3))) (.node (.node (.node (.node (.node (.leaf (.int .u16 b)) (J 0)) (J 1)) (J 2)) (J 3)) (J 4)))), (OO 7)⟩ (by kernel_rfl) (by kernel_rfl) ?_
  repeat' (first
    | refine allProp_T ?_
    | exact trivial
    | (refine URun.id ?_; first
        | refine URun.nil ?_
        | refine URun.many tabs2 rfl rfl (by kernel_rfl) ?_ ?_
        | (refine URun.toCall 9 rfl ?_; first
          | refine URun.call tabs2 rfl rfl rfl rfl q9 rfl rfl ?_ rfl ?_)
        | (refine URun.toCall 10 rfl ?_; first
          | refine URun.call tabs2 rfl rfl rfl rfl k27 rfl rfl ?_ rfl ?_)
        | (refine URun.toCall 23 rfl ?_; first
          | refine URun.call tabs2 rfl rfl rfl rfl k46 rfl rfl ?_ rfl ?_)
        | (refine URun.toCall 26 rfl ?_; first
          | refine URun.call tabs2 rfl rfl rfl rfl k26 rfl rfl ?_ rfl ?_
          | refine URun.call tabs2 rfl rfl rfl rfl k26b rfl rfl ?_ rfl ?_)
        | (refine URun.toCall 21 rfl ?_; first
          | refine URun.call tabs2 rfl rfl rfl rfl k21 rfl rfl ?_ rfl ?_
          | refine URun.call tabs2 rfl rfl rfl rfl k21b rfl rfl ?_ rfl ?_)
        | (refine URun.toCall 29 rfl ?_; first
          | refine URun.call tabs2 rfl rfl rfl rfl k29 rfl rfl ?_ rfl ?_
          | refine URun.call tabs2 rfl rfl rfl rfl k29b rfl rfl ?_ rfl ?_)
        | (refine URun.toCall 28 rfl ?_; first
          | refine URun.call tabs2 rfl rfl rfl rfl k28 rfl rfl ?_ rfl ?_)
        | refine URun.same tabs2 rfl rfl rfl ?_
        | refine URun.same2 tabs2 rfl rfl rfl ?_
        | refine URun.yes tabs2 rfl rfl rfl rfl ?_
        | refine URun.no tabs2 rfl rfl rfl rfl ?_
        | refine URun.split tabs2 rfl rfl rfl rfl (fun h => ?_) (fun h => ?_))
    | (refine TRun.id ?_; first
        | refine TRun.nil ?_
        | refine TRun.many rfl rfl (by kernel_rfl) ?_ ?_
        | (refine TRun.toCall 9 rfl ?_; first
          | refine TRun.call rfl rfl rfl rfl q9 rfl rfl ?_ rfl ?_)
        | (refine TRun.toCall 10 rfl ?_; first
          | refine TRun.call rfl rfl rfl rfl k27 rfl rfl ?_ rfl ?_)
        | (refine TRun.toCall 23 rfl ?_; first
          | refine TRun.call rfl rfl rfl rfl k46 rfl rfl ?_ rfl ?_)
        | (refine TRun.toCall 26 rfl ?_; first
          | refine TRun.call rfl rfl rfl rfl k26 rfl rfl ?_ rfl ?_
          | refine TRun.call rfl rfl rfl rfl k26b rfl rfl ?_ rfl ?_)
        | (refine TRun.toCall 21 rfl ?_; first
          | refine TRun.call rfl rfl rfl rfl k21 rfl rfl ?_ rfl ?_
          | refine TRun.call rfl rfl rfl rfl k21b rfl rfl ?_ rfl ?_)
        | (refine TRun.toCall 29 rfl ?_; first
          | refine TRun.call rfl rfl rfl rfl k29 rfl rfl ?_ rfl ?_
          | refine TRun.call rfl rfl rfl rfl k29b rfl rfl ?_ rfl ?_)
        | (refine TRun.toCall 28 rfl ?_; first
          | refine TRun.call rfl rfl rfl rfl k28 rfl rfl ?_ rfl ?_)
        | refine TRun.same rfl rfl rfl ?_
        | refine TRun.same2 rfl rfl rfl ?_
        | refine TRun.yes rfl rfl rfl rfl ?_
        | refine TRun.no rfl rfl rfl rfl ?_
        | refine TRun.split rfl rfl rfl rfl (fun h => ?_) (fun h => ?_))
    | (refine HoldsT.id ?_; first
        | refine HoldsT.seq ?_
        | refine HoldsT.regionU ?_
        | refine HoldsT.drawn tabs2 ?_
        | refine HoldsT.yes rfl ?_
        | refine HoldsT.no rfl ?_
        | refine HoldsT.cond rfl (fun h => ?_) (fun h => ?_)
        | refine HoldsT.block ?_
        | refine HoldsT.ret ?_
        | refine HoldsT.skip ?_
        | refine HoldsT.exit ?_)
    | (refine okTr_intro ?_; kernel_rfl)
    | exact absurd rfl h
    | exact rowGk rfl rfl rfl
    | refine allProp_C ?_ ?_
    | refine And.intro ?_ ?_
    | omega
    | (show _ < List.length _; omega)
    | exact rowlen_intro rfl
    | exact lenEq_intro rfl
    | exact Nat.le_of_ble_eq_true rfl
    | (simp only [AV.rowlenD, AV.rowlen, AV.ncells, mulSz, toN, Option.map_some, Option.map_none, cutL, List.length_take, List.length_drop, List.length_append, List.length_cons, List.length_nil, List.length_set, Option.some.injEq, Int.reduceToNat] <;> omega))
  all_goals exact FinC.te (y := .bool true) rfl rfl trivial rfl
set_option maxRecDepth 10000 in
set_option maxHeartbeats 8000000 in
theorem q8 (ls : List (List UInt8)) (kd a b c d m : Int) (hL : ls.length ≤ 140737488355328) (hB : ∀ n : Nat, (ls.getD n []).length ≤ 140737488355328) (hkd : inK .u8 kd) (ha : inK .u16 a) (hb : inK .u16 b) (hc : inK .u16 c) (hd : inK .u16 d) (hm : inK .u8 m) : Pure Tryd.prog 8 [.slS ls, .int .u8 kd, .int .u16 a, .int .u16 b, .int .u16 c, .int .u16 d, .int .u8 m] (.bool true) := by
  have k27 := p27 ls hL hB
  cases hok : (decide (0 < (ls.length : Int)) && lightL ls) with
  | false =>
    rw [hok] at k27
    refine Pure.ofT tab2_ok Tryd.func8 rfl rfl [.tmp 14] rfl (by decide) rfl ⟨124, 7, (.node (.node (.node (.node (.node (.node (.node (.leaf (.slS ls)) (J 0)) (J 1)) (J 2)) (J 3)) (.node (.node (.node (.node (.leaf (.int .u16 c)) (J 0)) (J 1)) (J 2)) (J 3))) (.node (.node (.node (.node (.node (.leaf (.int .u16 a)) (J 0)) (J 1)) (J 2)) (J 3)) (.node (.node (.node (.node (.leaf (.int .u8 m)) (J 0)) (J 1)) (J 2)) (J 3)))) (.node (.node (.node (.node (.node (.node (.leaf (.int .u8 kd)) (J 0)) (J 1)) (J 2)) (J 3)) (.node (.node (.node (.node (.leaf (.int .u16 d)) (J 0)) (J 1)) (J 2)) (J 3))) (.node (.node (.node (.node (.node (.leaf (.int .u16 b)) (J 0)) (J 1)) (J 2)) (J 3)) (J 4)))), (OO 7)⟩ (by kernel_rfl) (by kernel_rfl) ?_
    repeat' (first
      | refine allProp_T ?_
      | exact trivial
      | (refine URun.id ?_; first
          | refine URun.nil ?_
          | refine URun.many tabs2 rfl rfl (by kernel_rfl) ?_ ?_
          | (refine URun.toCall 9 rfl ?_; first
            | refine URun.call tabs2 rfl rfl rfl rfl q9 rfl rfl ?_ rfl ?_)
          | (refine URun.toCall 10 rfl ?_; first
            | refine URun.call tabs2 rfl rfl rfl rfl k27 rfl rfl ?_ rfl ?_)
          | refine URun.same tabs2 rfl rfl rfl ?_
          | refine URun.same2 tabs2 rfl rfl rfl ?_
          | refine URun.split tabs2 rfl rfl rfl rfl (fun h => ?_) (fun h => ?_))
      | (refine TRun.id ?_; first
          | refine TRun.nil ?_
          | refine TRun.many rfl rfl (by kernel_rfl) ?_ ?_
          | (refine TRun.toCall 9 rfl ?_; first
            | refine TRun.call rfl rfl rfl rfl q9 rfl rfl ?_ rfl ?_)
          | (refine TRun.toCall 10 rfl ?_; first
            | refine TRun.call rfl rfl rfl rfl k27 rfl rfl ?_ rfl ?_)
          | refine TRun.same rfl rfl rfl ?_
          | refine TRun.same2 rfl rfl rfl ?_
          | refine TRun.split rfl rfl rfl rfl (fun h => ?_) (fun h => ?_))
      | (refine HoldsT.id ?_; first
          | refine HoldsT.seq ?_
          | refine HoldsT.regionU ?_
          | refine HoldsT.drawn tabs2 ?_
          | refine HoldsT.yes rfl ?_
          | refine HoldsT.no rfl ?_
          | refine HoldsT.cond rfl (fun h => ?_) (fun h => ?_)
          | refine HoldsT.block ?_
          | refine HoldsT.ret ?_
          | refine HoldsT.skip ?_
          | refine HoldsT.exit ?_)
      | (refine okTr_intro ?_; kernel_rfl)
      | exact absurd rfl h
      | refine allProp_C ?_ ?_
      | refine And.intro ?_ ?_
      | omega
      | (show _ < List.length _; omega)
      | exact rowlen_intro rfl
      | exact lenEq_intro rfl
      | exact Nat.le_of_ble_eq_true rfl
      | (simp only [AV.rowlenD, AV.rowlen, AV.ncells, mulSz, toN, Option.map_some, Option.map_none, cutL, List.length_take, List.length_drop, List.length_append, List.length_cons, List.length_nil, List.length_set, Option.some.injEq, Int.reduceToNat] <;> omega))
    all_goals exact FinC.te (y := .bool true) rfl rfl trivial rfl
  | true =>
    rw [hok] at k27
    obtain ⟨h0, hl, hr⟩ := light_len hok
    have k46 := p46 ls kd a b c d (by omega) h0 hkd ha hb hc hd (fun n => by have := hr n; omega)
    have hv := (rg_valid ls kd a b c d h0 hkd.1 ha.1 hb.1 hc.1 hd.1).1
    rcases hrg : rgL ls kd a b c d with ⟨k, fl, fc, tl, tc⟩
    rw [hrg] at k46 hv
    have k46 : Pure Tryd.prog 23 [.slS ls, .int .u8 kd, .int .u16 a, .int .u16 b, .int .u16 c, .int .u16 d] (.agg [.int .i64 k, .int .i64 fl, .int .i64 fc, .int .i64 tl, .int .i64 tc]) := k46
    simp only at hv
    obtain ⟨v1, v2⟩ := validL_spec hv
    have hm0 : 0 ≤ m ∧ m ≤ 255 := hm
    have hm3 := tmod_in hm0.1 (show (0 : Int) < 3 by omega)
    -- shifted, and back
    have k26 := q26 ls fl tl (m.tmod 3 + 1) false (by omega) (fun n => by have := hr n; omega)
    have e1 : shiftR ls fl tl (m.tmod 3 + 1) false = ⟨true, fl, midL ls fl (tl - fl + 1), eachL (fun i : Int => shF false (ls.getD i.toNat []) (min (m.tmod 3 + 1) 1024)) fl (tl - fl + 1).toNat⟩ := if_pos ⟨by omega, v1⟩
    rw [e1] at k26
    obtain ⟨f1, f2, f3⟩ := app_each (F := (fun i : Int => shF false (ls.getD i.toNat []) (min (m.tmod 3 + 1) 1024))) v1.1 v1.2.1 v1.2.2
    have hol : ((midL ls fl (tl - fl + 1)).length : Int) = tl - fl + 1 := mid_len v1.1 (by omega) (by omega)
    have hnl := eachL_length (fun i : Int => shF false (ls.getD i.toNat []) (min (m.tmod 3 + 1) 1024)) fl (tl - fl + 1).toNat
    have k21 := p41 ls (midL ls fl (tl - fl + 1)) (eachL (fun i : Int => shF false (ls.getD i.toNat []) (min (m.tmod 3 + 1) 1024)) fl (tl - fl + 1).toNat) fl (by omega) (by omega) (by omega)
    rw [f1] at k21
    have hs1 : ∀ n : Nat, ((appL ls fl (midL ls fl (tl - fl + 1)) (eachL (fun i : Int => shF false (ls.getD i.toNat []) (min (m.tmod 3 + 1) 1024)) fl (tl - fl + 1).toNat)).getD n []).length ≤ 1600 := fun n => by
      rw [f3 n]
      have := hr n
      split
      · have h := shR_len (ls.getD ((n : Int)).toNat []) (n := min (m.tmod 3 + 1) 1024) (by omega) (by omega)
        rw [show ((n : Int)).toNat = n by omega] at h
        show (shR (ls.getD ((n : Int)).toNat []) (min (m.tmod 3 + 1) 1024)).length ≤ 1600
        rw [show ((n : Int)).toNat = n by omega]; omega
      · omega
    have hu1 := shift_undone (now := appL ls fl (midL ls fl (tl - fl + 1)) (eachL (fun i : Int => shF false (ls.getD i.toNat []) (min (m.tmod 3 + 1) 1024)) fl (tl - fl + 1).toNat)) (n := min (m.tmod 3 + 1) 1024) v1.1 v1.2.1 v1.2.2 (by omega) f2 (fun i g1 g2 => by rw [f3 i, if_pos ⟨g1, g2⟩, show ((i : Int)).toNat = i by omega])
    generalize appL ls fl (midL ls fl (tl - fl + 1)) (eachL (fun i : Int => shF false (ls.getD i.toNat []) (min (m.tmod 3 + 1) 1024)) fl (tl - fl + 1).toNat) = now at *
    have k26b := q26 now fl tl (m.tmod 3 + 1) true (by omega) (fun n => by have := hs1 n; omega)
    have e2 : shiftR now fl tl (m.tmod 3 + 1) true = ⟨true, fl, midL now fl (tl - fl + 1), midL ls fl (tl - fl + 1)⟩ := by
      unfold shiftR
      rw [if_pos ⟨by omega, v1.1, v1.2.1, by omega⟩, hu1]
    rw [e2] at k26b
    -- turned, and back
    have k29 := p91ti ls k fl fc tl tc (by omega) (fun n => by have := hr n; omega) hv
    have hnl2 := eachL_length (rowC true true ls k fl fc tl tc) fl (tl - fl + 1).toNat
    have k21b := p41 ls (midL ls fl (tl - fl + 1)) (eachL (rowC true true ls k fl fc tl tc) fl (tl - fl + 1).toNat) fl (by omega) (by omega) (by omega)
    obtain ⟨c1, c2, c3, c4⟩ := case_facts true true hv rfl rfl rfl
    rw [c1] at k21b
    have hu2 := case_undone hv c2 c3 c4
    have hv2 : validL (appL ls fl (midL ls fl (tl - fl + 1)) (eachL (rowC true true ls k fl fc tl tc) fl (tl - fl + 1).toNat)) k fl fc tl tc = true := by rw [validL_congr c2 c3]; exact hv
    generalize appL ls fl (midL ls fl (tl - fl + 1)) (eachL (rowC true true ls k fl fc tl tc) fl (tl - fl + 1).toNat) = now2 at *
    have k29b := p91ti now2 k fl fc tl tc (by omega) (fun n => by rw [c3]; have := hr n; omega) hv2
    rw [hu2] at k29b
    have k28 := p30 (midL ls fl (tl - fl + 1)) (midL ls fl (tl - fl + 1)) (by omega)
    rw [decide_eq_true rfl] at k28
    exact q8w ls (midL ls fl (tl - fl + 1)) _ now _ _ now2 _ kd a b c d m k fl fc tl tc hm0 k27 k46 k26 k21 k26b k29 k21b k29b k28

end Go.Proofs.YtefbgdnobnemkaaDoor.AM
