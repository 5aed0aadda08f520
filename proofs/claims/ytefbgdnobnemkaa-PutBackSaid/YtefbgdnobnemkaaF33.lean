/-
  What d takes out and the text behind it are what was there.
-/
import Derived.Test.YtefbgdnobnemkaaF32
set_option linter.unusedSimpArgs false
set_option linter.unusedVariables false
set_option linter.unusedSectionVars false
namespace Go.Proofs.Ytefbgdnobnemkaa.AM
open Go Go.RowKit

theorem clamp_again (ls : List (List UInt8)) (l c : Int) (h : 0 < ls.length) : clL ls (clL ls l) = clL ls l ∧ clC ls (clL ls l) (clC ls l c false) false = clC ls l c false := by
  have e : clL ls (clL ls l) = clL ls l := by unfold clL; omega
  refine ⟨e, ?_⟩
  unfold clC
  rw [e]
  omega

section
variable (ls : List (List UInt8)) (kd a b c d : Int) (hL : ls.length ≤ 140737488355328) (hB : ∀ n : Nat, (ls.getD n []).length ≤ 140737488355328)
set_option maxRecDepth 10000 in
set_option maxHeartbeats 8000000 in
theorem p14w (k fl fc tl tc x y at' : Int) (old new now t : List (List UInt8)) 
    (k27 : Pure Try.prog 27 [.slS ls] (.bool true)) (k46 : Pure Try.prog 46 [.slS ls, .int .u8 kd, .int .u16 a, .int .u16 b, .int .u16 c, .int .u16 d] (.agg [.int .i64 k, .int .i64 fl, .int .i64 fc, .int .i64 tl, .int .i64 tc])) (k47 : Pure Try.prog 47 [.slS ls, .agg [.int .i64 k, .int .i64 fl, .int .i64 fc, .int .i64 tl, .int .i64 tc]] (.agg [.int .i64 k, .slS t]))
    (k48 : Pure Try.prog 48 [.slS ls, .str [100], .agg [.int .i64 k, .int .i64 fl, .int .i64 fc, .int .i64 tl, .int .i64 tc], .int .i64 1] (.tup [.agg [.int .i64 at', .slS old, .slS new], .agg [.int .i64 x, .int .i64 y], .bool true]))
    (k41 : Pure Try.prog 41 [.slS ls, .slG 3 [.int .i64 at', .slS old, .slS new]] (.tup [.slS now, .bool true]))
    (k49 : Pure Try.prog 49 [.slS now, .agg [.int .i64 x, .int .i64 y], .bool false] (.agg [.int .i64 x, .int .i64 y]))
    (k33a : Pure Try.prog 33 [.slS ls] (.int .i64 (sizeL ls))) (k33b : Pure Try.prog 33 [.slS now] (.int .i64 (sizeL now))) (k33c : Pure Try.prog 33 [.slS t] (.int .i64 (sizeL t)))
    (b1 : sizeL ls ≤ 1000000) (b2 : sizeL now ≤ 1000000) (b3 : sizeL t ≤ 1000000) (b4 : t.length ≤ 1000000)
    (s1 : k = 0 → (sizeL ls : Int) = sizeL now + sizeL t - 1) (s2 : k = 2 → (sizeL ls : Int) = sizeL now + sizeL t - t.length)
    (s3 : k ≠ 0 → k ≠ 2 → (t.length = ls.length → sizeL now = 1 ∧ sizeL t = sizeL ls) ∧ (t.length ≠ ls.length → (sizeL ls : Int) = sizeL now + sizeL t)) :
    Pure Try.prog 14 [.slS ls, .int .u8 kd, .int .u16 a, .int .u16 b, .int .u16 c, .int .u16 d] (.bool true) := by
  have hne : ¬ ((x, y) ≠ (x, y)) := fun h => h rfl
  refine Pure.ofT tab2_ok Try.func14 rfl rfl [.tmp 12] rfl (by decide) rfl ⟨114, 7, (.node (.node (.node (.node (.node (.node (.node (.leaf (.slS ls)) (J 0)) (J 1)) (J 2)) (J 3)) (.node (.node (.node (.node (.leaf (.int .u16 c)) (J 0)) (J 1)) (J 2)) (J 3))) (.node (.node (.node (.node (.node (.leaf (.int .u16 a)) (J 0)) (J 1)) (J 2)) (J 3)) (J 4))) (.node (.node (.node (.node (.node (.node (.leaf (.int .u8 kd)) (J 0)) (J 1)) (J 2)) (J 3)) (.node (.node (.node (.node (.leaf (.int .u16 d)) (J 0)) (J 1)) (J 2)) (J 3))) (.node (.node (.node (.node (.node (.leaf (.int .u16 b)) (J 0)) (J 1)) (J 2)) (J 3)) (J 4)))), (OO 7)⟩ (by kernel_rfl) (by kernel_rfl) ?_
  repeat' (first
    | refine allProp_T ?_
    | exact trivial
    | (refine URun.id ?_; first
        | refine URun.nil ?_
        | refine URun.many tabs2 rfl rfl (by kernel_rfl) ?_ ?_
        | (refine URun.toCall 45 rfl ?_; first
          | refine URun.call tabs2 rfl rfl rfl rfl p45 rfl rfl ?_ rfl ?_)
        | (refine URun.toCall 27 rfl ?_; first
          | refine URun.call tabs2 rfl rfl rfl rfl k27 rfl rfl ?_ rfl ?_)
        | (refine URun.toCall 46 rfl ?_; first
          | refine URun.call tabs2 rfl rfl rfl rfl k46 rfl rfl ?_ rfl ?_)
        | (refine URun.toCall 47 rfl ?_; first
          | refine URun.call tabs2 rfl rfl rfl rfl k47 rfl rfl ?_ rfl ?_)
        | (refine URun.toCall 48 rfl ?_; first
          | refine URun.call tabs2 rfl rfl rfl rfl k48 rfl rfl ?_ rfl ?_)
        | (refine URun.toCall 41 rfl ?_; first
          | refine URun.call tabs2 rfl rfl rfl rfl k41 rfl rfl ?_ rfl ?_)
        | (refine URun.toCall 49 rfl ?_; first
          | refine URun.call tabs2 rfl rfl rfl rfl k49 rfl rfl ?_ rfl ?_)
        | (refine URun.toCall 33 rfl ?_; first
          | refine URun.call tabs2 rfl rfl rfl rfl k33a rfl rfl ?_ rfl ?_
          | refine URun.call tabs2 rfl rfl rfl rfl k33b rfl rfl ?_ rfl ?_
          | refine URun.call tabs2 rfl rfl rfl rfl k33c rfl rfl ?_ rfl ?_)
        | refine URun.same tabs2 rfl rfl rfl ?_
        | refine URun.same2 tabs2 rfl rfl rfl ?_
        | refine URun.yes tabs2 rfl rfl (fun h => h rfl) rfl ?_
        | refine URun.no tabs2 rfl rfl (fun h => h rfl) rfl ?_
        | refine URun.yes tabs2 rfl rfl (fun h => h ⟨rfl, rfl⟩) rfl ?_
        | refine URun.no tabs2 rfl rfl (fun h => h ⟨rfl, rfl⟩) rfl ?_
        | refine URun.split tabs2 rfl rfl rfl rfl (fun h => ?_) (fun h => ?_))
    | (refine TRun.id ?_; first
        | refine TRun.nil ?_
        | refine TRun.many rfl rfl (by kernel_rfl) ?_ ?_
        | (refine TRun.toCall 45 rfl ?_; first
          | refine TRun.call rfl rfl rfl rfl p45 rfl rfl ?_ rfl ?_)
        | (refine TRun.toCall 27 rfl ?_; first
          | refine TRun.call rfl rfl rfl rfl k27 rfl rfl ?_ rfl ?_)
        | (refine TRun.toCall 46 rfl ?_; first
          | refine TRun.call rfl rfl rfl rfl k46 rfl rfl ?_ rfl ?_)
        | (refine TRun.toCall 47 rfl ?_; first
          | refine TRun.call rfl rfl rfl rfl k47 rfl rfl ?_ rfl ?_)
        | (refine TRun.toCall 48 rfl ?_; first
          | refine TRun.call rfl rfl rfl rfl k48 rfl rfl ?_ rfl ?_)
        | (refine TRun.toCall 41 rfl ?_; first
          | refine TRun.call rfl rfl rfl rfl k41 rfl rfl ?_ rfl ?_)
        | (refine TRun.toCall 49 rfl ?_; first
          | refine TRun.call rfl rfl rfl rfl k49 rfl rfl ?_ rfl ?_)
        | (refine TRun.toCall 33 rfl ?_; first
          | refine TRun.call rfl rfl rfl rfl k33a rfl rfl ?_ rfl ?_
          | refine TRun.call rfl rfl rfl rfl k33b rfl rfl ?_ rfl ?_
          | refine TRun.call rfl rfl rfl rfl k33c rfl rfl ?_ rfl ?_)
        | refine TRun.same rfl rfl rfl ?_
        | refine TRun.same2 rfl rfl rfl ?_
        | refine TRun.yes rfl rfl (fun h => h rfl) rfl ?_
        | refine TRun.no rfl rfl (fun h => h rfl) rfl ?_
        | refine TRun.yes rfl rfl (fun h => h ⟨rfl, rfl⟩) rfl ?_
        | refine TRun.no rfl rfl (fun h => h ⟨rfl, rfl⟩) rfl ?_
        | refine TRun.split rfl rfl rfl rfl (fun h => ?_) (fun h => ?_))
    | (refine HoldsT.id ?_; first
        | refine HoldsT.seq ?_
        | refine HoldsT.regionU ?_
        | refine HoldsT.drawn tabs2 ?_
        | refine HoldsT.yes rfl ?_
        | refine HoldsT.no rfl ?_
        | refine HoldsT.cond rfl (fun h => ?_) (fun h => ?_)
        | refine HoldsT.block ?_
        | refine HoldsT.ret ?_
        | refine HoldsT.skip ?_
        | refine HoldsT.exit ?_)
    | (refine okTr_intro ?_; kernel_rfl)
    | exact absurd rfl h
    | exact rowGk rfl rfl rfl
    | refine allProp_C ?_ ?_
    | refine And.intro ?_ ?_
    | omega
    | (show _ < List.length _; omega)
    | exact rowlen_intro rfl
    | exact lenEq_intro rfl
    | exact Nat.le_of_ble_eq_true rfl
    | (simp only [AV.rowlenD, AV.rowlen, AV.ncells, mulSz, toN, Option.map_some, Option.map_none, cutL, List.length_take, List.length_drop, List.length_append, List.length_cons, List.length_nil, List.length_set, Option.some.injEq, Int.reduceToNat] <;> omega))
  all_goals exact FinC.te (y := .bool true) rfl rfl trivial rfl
include hL hB
set_option maxRecDepth 10000 in
set_option maxHeartbeats 8000000 in
theorem p14 (hkd : inK .u8 kd) (ha : inK .u16 a) (hb : inK .u16 b) (hc : inK .u16 c) (hd : inK .u16 d) : Pure Try.prog 14 [.slS ls, .int .u8 kd, .int .u16 a, .int .u16 b, .int .u16 c, .int .u16 d] (.bool true) := by
  have k27 := p27 ls hL hB
  cases hok : (decide (0 < (ls.length : Int)) && lightL ls) with
  | false =>
    rw [hok] at k27
    refine Pure.ofT tab2_ok Try.func14 rfl rfl [.tmp 12] rfl (by decide) rfl ⟨114, 7, (.node (.node (.node (.node (.node (.node (.node (.leaf (.slS ls)) (J 0)) (J 1)) (J 2)) (J 3)) (.node (.node (.node (.node (.leaf (.int .u16 c)) (J 0)) (J 1)) (J 2)) (J 3))) (.node (.node (.node (.node (.node (.leaf (.int .u16 a)) (J 0)) (J 1)) (J 2)) (J 3)) (J 4))) (.node (.node (.node (.node (.node (.node (.leaf (.int .u8 kd)) (J 0)) (J 1)) (J 2)) (J 3)) (.node (.node (.node (.node (.leaf (.int .u16 d)) (J 0)) (J 1)) (J 2)) (J 3))) (.node (.node (.node (.node (.node (.leaf (.int .u16 b)) (J 0)) (J 1)) (J 2)) (J 3)) (J 4)))), (OO 7)⟩ (by kernel_rfl) (by kernel_rfl) ?_
    repeat' (first
      | refine allProp_T ?_
      | exact trivial
      | (refine URun.id ?_; first
          | refine URun.nil ?_
          | refine URun.many tabs2 rfl rfl (by kernel_rfl) ?_ ?_
          | (refine URun.toCall 45 rfl ?_; first
            | refine URun.call tabs2 rfl rfl rfl rfl p45 rfl rfl ?_ rfl ?_)
          | (refine URun.toCall 27 rfl ?_; first
            | refine URun.call tabs2 rfl rfl rfl rfl k27 rfl rfl ?_ rfl ?_)
          | refine URun.same tabs2 rfl rfl rfl ?_
          | refine URun.same2 tabs2 rfl rfl rfl ?_
          | refine URun.split tabs2 rfl rfl rfl rfl (fun h => ?_) (fun h => ?_))
      | (refine TRun.id ?_; first
          | refine TRun.nil ?_
          | refine TRun.many rfl rfl (by kernel_rfl) ?_ ?_
          | (refine TRun.toCall 45 rfl ?_; first
            | refine TRun.call rfl rfl rfl rfl p45 rfl rfl ?_ rfl ?_)
          | (refine TRun.toCall 27 rfl ?_; first
            | refine TRun.call rfl rfl rfl rfl k27 rfl rfl ?_ rfl ?_)
          | refine TRun.same rfl rfl rfl ?_
          | refine TRun.same2 rfl rfl rfl ?_
          | refine TRun.split rfl rfl rfl rfl (fun h => ?_) (fun h => ?_))
      | (refine HoldsT.id ?_; first
          | refine HoldsT.seq ?_
          | refine HoldsT.regionU ?_
          | refine HoldsT.drawn tabs2 ?_
          | refine HoldsT.yes rfl ?_
          | refine HoldsT.no rfl ?_
          | refine HoldsT.cond rfl (fun h => ?_) (fun h => ?_)
          | refine HoldsT.block ?_
          | refine HoldsT.ret ?_
          | refine HoldsT.skip ?_
          | refine HoldsT.exit ?_)
      | (refine okTr_intro ?_; kernel_rfl)
      | exact absurd rfl h
      | refine allProp_C ?_ ?_
      | refine And.intro ?_ ?_
      | omega
      | (show _ < List.length _; omega)
      | exact rowlen_intro rfl
      | exact lenEq_intro rfl
      | exact Nat.le_of_ble_eq_true rfl
      | (simp only [AV.rowlenD, AV.rowlen, AV.ncells, mulSz, toN, Option.map_some, Option.map_none, cutL, List.length_take, List.length_drop, List.length_append, List.length_cons, List.length_nil, List.length_set, Option.some.injEq, Int.reduceToNat] <;> omega))
    all_goals exact FinC.te (y := .bool true) rfl rfl trivial rfl
  | true =>
    rw [hok] at k27
    obtain ⟨h0, hl, hr⟩ := light_len hok
    have hsum : sumL ls ≤ 1200 := by
      simp only [lightL, Bool.and_eq_true, decide_eq_true_eq] at hok
      exact hok.2.1.2
    have k46 := p46 ls kd a b c d (by omega) h0 hkd ha hb hc hd (fun n => by have := hr n; omega)
    have hv := (rg_valid ls kd a b c d h0 hkd.1 ha.1 hb.1 hc.1 hd.1).1
    rcases hrg : rgL ls kd a b c d with ⟨k, fl, fc, tl, tc⟩
    rw [hrg] at k46 hv
    have k46 : Pure Try.prog 46 [.slS ls, .int .u8 kd, .int .u16 a, .int .u16 b, .int .u16 c, .int .u16 d] (.agg [.int .i64 k, .int .i64 fl, .int .i64 fc, .int .i64 tl, .int .i64 tc]) := k46
    simp only at hv
    have k47 := p47 ls k fl fc tl tc (by omega) (fun n => by have := hr n; omega)
    have k48 := p48d ls k fl fc tl tc 1 (by omega) (fun n => by have := hr n; omega) hv
    have hap := cut_app hv
    obtain ⟨f1, f2, f3, f4, f5, f6⟩ := cut_facts hv (b := 1200) hr
    obtain ⟨s1, s2, s3⟩ := cut_sizes hv
    have htl : (textL ls k fl fc tl tc).length ≤ 40 := by
      have := (validL_spec hv).1
      unfold textL
      rw [if_pos hv, rowsT_length]; omega
    obtain ⟨v1, v2⟩ := validL_spec hv
    have hm := mid_len (ls := ls) (a := fl) (n := tl - fl + 1) (by omega) (by omega) (by omega)
    rcases hcc : cutR ls k fl fc tl tc with ⟨ok, at', old, new⟩
    rw [hcc] at k48 hap f1 f2 f3 f4 f5 f6 s1 s2 s3
    simp only at hap f1 f2 f3 f4 f5 f6 s1 s2 s3
    have hol : (old.length : Int) = tl - fl + 1 := by rw [f3]; exact hm
    have k41 := p41 ls old new at' (by omega) (by omega) (by omega)
    rw [hap] at k41
    have hnl := app_len hap
    have hns := (appL_small (ls := ls) (old := old) (new := new) (a := at') (b := 2 * 1200) (fun n => by have := hr n; omega) f5).2
    unfold doD at k48
    simp only at k48
    generalize appL ls at' old new = now at *
    generalize textL ls k fl fc tl tc = t at *
    have k49 := p49 now (clL now (atD now k fl fc).1) (clC now (atD now k fl fc).1 (atD now k fl fc).2 false) false (by omega) (fun n => by have := hns n; omega) (by omega)
    obtain ⟨g1, g2⟩ := clamp_again now (atD now k fl fc).1 (atD now k fl fc).2 (by omega)
    rw [g1, g2] at k49
    have e1 : sumL ls ≤ sizeL ls ∧ sizeL ls ≤ 1240 := by unfold sizeL; omega
    have e2 : sumL now ≤ sizeL now ∧ now.length ≤ sizeL now := by unfold sizeL; omega
    have e3 : sumL t ≤ sizeL t ∧ t.length ≤ sizeL t := by unfold sizeL; omega
    have hbd : sizeL now ≤ 1000000 ∧ sizeL t ≤ 1000000 := by
      by_cases c0 : k = 0
      · have := s1 c0; omega
      · by_cases c2 : k = 2
        · have := s2 c2; omega
        · have s := s3 c0 c2
          by_cases c4 : t.length = ls.length
          · have := s.1 c4; omega
          · have := s.2 c4; omega
    exact p14w ls kd a b c d k fl fc tl tc _ _ at' old new now t k27 k46 k47 k48 k41 k49 (p33 ls (by omega) (by omega)) (p33 now (by omega) (by omega)) (p33 t (by omega) (by omega)) (by omega) (by omega) (by omega) (by omega) s1 s2 s3
end

end Go.Proofs.Ytefbgdnobnemkaa.AM
