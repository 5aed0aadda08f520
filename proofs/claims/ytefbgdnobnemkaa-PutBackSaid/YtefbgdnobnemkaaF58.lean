/-
  What was cut, put back: the law.
-/
import Derived.Test.YtefbgdnobnemkaaF57
set_option linter.unusedSimpArgs false
set_option linter.unusedVariables false
set_option linter.unusedSectionVars false
namespace Go.Proofs.Ytefbgdnobnemkaa.AM
open Go Go.RowKit


set_option maxRecDepth 10000 in
set_option maxHeartbeats 8000000 in
theorem p17 (ls : List (List UInt8)) (kd a b c d : Int) (hL : ls.length ≤ 140737488355328) (hB : ∀ n : Nat, (ls.getD n []).length ≤ 140737488355328) (hkd : inK .u8 kd) (ha : inK .u16 a) (hb : inK .u16 b) (hc : inK .u16 c) (hd : inK .u16 d) : Pure Try.prog 17 [.slS ls, .int .u8 kd, .int .u16 a, .int .u16 b, .int .u16 c, .int .u16 d] (.bool true) := by
  have k27 := p27 ls hL hB
  cases hok : (decide (0 < (ls.length : Int)) && lightL ls) with
  | false =>
    rw [hok] at k27
    refine Pure.ofT tab2_ok Try.func17 rfl rfl [.tmp 12] rfl (by decide) rfl ⟨109, 7, (.node (.node (.node (.node (.node (.node (.node (.leaf (.slS ls)) (J 0)) (J 1)) (J 2)) (J 3)) (.node (.node (.node (.node (.leaf (.int .u16 c)) (J 0)) (J 1)) (J 2)) (J 3))) (.node (.node (.node (.node (.node (.leaf (.int .u16 a)) (J 0)) (J 1)) (J 2)) (J 3)) (J 4))) (.node (.node (.node (.node (.node (.node (.leaf (.int .u8 kd)) (J 0)) (J 1)) (J 2)) (J 3)) (.node (.node (.node (.node (.leaf (.int .u16 d)) (J 0)) (J 1)) (J 2)) (J 3))) (.node (.node (.node (.node (.node (.leaf (.int .u16 b)) (J 0)) (J 1)) (J 2)) (J 3)) (J 4)))), (OO 7)⟩ (by kernel_rfl) (by kernel_rfl) ?_
    repeat' (first
      | refine allProp_T ?_
      | exact trivial
      | (refine URun.id ?_; first
          | refine URun.nil ?_
          | refine URun.many tabs2 rfl rfl (by kernel_rfl) ?_ ?_
          | (refine URun.toCall 52 rfl ?_; first
            | refine URun.call tabs2 rfl rfl rfl rfl p52 rfl rfl ?_ rfl ?_)
          | (refine URun.toCall 27 rfl ?_; first
            | refine URun.call tabs2 rfl rfl rfl rfl k27 rfl rfl ?_ rfl ?_)
          | refine URun.same tabs2 rfl rfl rfl ?_
          | refine URun.same2 tabs2 rfl rfl rfl ?_
          | refine URun.split tabs2 rfl rfl rfl rfl (fun h => ?_) (fun h => ?_))
      | (refine TRun.id ?_; first
          | refine TRun.nil ?_
          | refine TRun.many rfl rfl (by kernel_rfl) ?_ ?_
          | (refine TRun.toCall 52 rfl ?_; first
            | refine TRun.call rfl rfl rfl rfl p52 rfl rfl ?_ rfl ?_)
          | (refine TRun.toCall 27 rfl ?_; first
            | refine TRun.call rfl rfl rfl rfl k27 rfl rfl ?_ rfl ?_)
          | refine TRun.same rfl rfl rfl ?_
          | refine TRun.same2 rfl rfl rfl ?_
          | refine TRun.split rfl rfl rfl rfl (fun h => ?_) (fun h => ?_))
      | (refine HoldsT.id ?_; first
          | refine HoldsT.seq ?_
          | refine HoldsT.regionU ?_
          | refine HoldsT.drawn tabs2 ?_
          | refine HoldsT.yes rfl ?_
          | refine HoldsT.no rfl ?_
          | refine HoldsT.cond rfl (fun h => ?_) (fun h => ?_)
          | refine HoldsT.block ?_
          | refine HoldsT.ret ?_
          | refine HoldsT.skip ?_
          | refine HoldsT.exit ?_)
      | (refine okTr_intro ?_; kernel_rfl)
      | exact absurd rfl h
      | refine allProp_C ?_ ?_
      | refine And.intro ?_ ?_
      | omega
      | (show _ < List.length _; omega)
      | exact rowlen_intro rfl
      | exact lenEq_intro rfl
      | exact Nat.le_of_ble_eq_true rfl
      | (simp only [AV.rowlenD, AV.rowlen, AV.ncells, mulSz, toN, Option.map_some, Option.map_none, cutL, List.length_take, List.length_drop, List.length_append, List.length_cons, List.length_nil, List.length_set, Option.some.injEq, Int.reduceToNat] <;> omega))
    all_goals exact FinC.te (y := .bool true) rfl rfl trivial rfl
  | true =>
    rw [hok] at k27
    obtain ⟨h0, hl, hr⟩ := light_len hok
    have hlt : sumL ls ≤ 1200 ∧ ls.all noLF = true := by
      simp only [lightL, Bool.and_eq_true, decide_eq_true_eq] at hok
      exact ⟨hok.2.1.2, hok.2.2⟩
    have hkd0 : 0 ≤ kd ∧ kd ≤ 255 := hkd
    have hk2 := tmod_in hkd0.1 (show (0 : Int) < 2 by omega)
    have k46 := p46 ls (kd.tmod 2) a b c d (by omega) h0 (by omega) ha hb hc hd (fun n => by have := hr n; omega)
    have hv := rg_valid ls (kd.tmod 2) a b c d h0 (by omega) ha.1 hb.1 hc.1 hd.1
    rcases hrg : rgL ls (kd.tmod 2) a b c d with ⟨k, fl, fc, tl, tc⟩
    rw [hrg] at k46 hv
    have k46 : Pure Try.prog 46 [.slS ls, .int .u8 (kd.tmod 2), .int .u16 a, .int .u16 b, .int .u16 c, .int .u16 d] (.agg [.int .i64 k, .int .i64 fl, .int .i64 fc, .int .i64 tl, .int .i64 tc]) := k46
    obtain ⟨hv, hk⟩ := hv
    simp only at hv hk
    rw [Int.tmod_eq_of_lt hk2.1 (by omega)] at hk
    obtain ⟨v1, v2⟩ := validL_spec hv
    have hk01 : k = 0 ∨ k = 1 := by omega
    have k51 := p51 ls k fl fc tl tc (by omega) (fun n => by have := hr n; omega)
    have k53 := p53 ls k fl fc tl tc hk01 (by omega) (fun n => by have := hr n; omega) hv
    have hap := cut_app hv
    obtain ⟨s1, s2, s3⟩ := cut_sizes hv
    have hm := mid_len (ls := ls) (a := fl) (n := tl - fl + 1) (by omega) (by omega) (by omega)
    have htl : ((textL ls k fl fc tl tc).length : Int) = tl - fl + 1 := by
      unfold textL
      rw [if_pos hv, rowsT_length]; omega
    have htB : ∀ n : Nat, ((textL ls k fl fc tl tc).getD n []).length ≤ 1200 := fun n => by
      unfold textL
      rw [if_pos hv, rowsT_map, List.getD_eq_getElem?_getD, List.getElem?_map]
      by_cases hn : n < (tl - fl + 1).toNat
      · rw [List.getElem?_range hn]
        have := hr (fl + (n : Nat)).toNat
        simp only [Option.map_some, Option.getD_some, rowT, cutL, List.length_drop, List.length_take]; omega
      · rw [List.getElem?_eq_none (by simp; omega)]; simp
    have hts : sizeL (textL ls k fl fc tl tc) ≤ 1300 := by
      have e1 : sizeL ls ≤ 1240 := by unfold sizeL; omega
      rcases hk01 with h | h
      · have := s1 h; omega
      · have s := s3 (by omega) (by omega)
        by_cases c4 : (textL ls k fl fc tl tc).length = ls.length
        · have := s.1 c4; omega
        · have := s.2 c4; omega
    have hmay : mayL (textL ls k fl fc tl tc) 1 = true := may_iff.2 ⟨⟨by omega, by omega, by omega, by omega⟩, text_noLF hlt.2 k fl fc tl tc⟩
    have hss : sumL (textL ls k fl fc tl tc) ≤ 1300 := by unfold sizeL at hts; omega
    have hw := parts_whole (ls := ls) (a := fl) (n := tl - fl + 1) (by omega) (by omega) (by omega)
    have hl1 : (ls.take fl.toNat).length = fl.toNat := by rw [List.length_take]; omega
    have hmB : ∀ n : Nat, ((midL ls fl (tl - fl + 1)).getD n []).length ≤ 1200 := fun n => mid_getD_le hr n
    have k30 := p30 ls ls (by omega)
    rw [decide_eq_true rfl] at k30
    have hbf := hr fl.toNat
    have hbt := hr tl.toNat
    rcases hk01 with rfl | rfl
    · have hz : (0 ≤ fc ∧ fc ≤ ((ls.getD fl.toNat []).length : Int)) ∧ (0 ≤ tc ∧ tc ≤ ((ls.getD tl.toNat []).length : Int)) := by
        rcases v2 with ⟨_, q1, q2, _⟩ | q | q
        · exact ⟨q1, q2⟩
        · omega
        · omega
      have hback := put_back hv
      obtain ⟨X, hX⟩ : ∃ X, X = (ls.getD fl.toNat []).take fc.toNat ++ (ls.getD tl.toNat []).drop tc.toNat := ⟨_, rfl⟩
      have hXl : fc ≤ (X.length : Int) ∧ X.length ≤ 2400 := by
        rw [hX, List.length_append, List.length_take, List.length_drop]; omega
      have e : cutR ls 0 fl fc tl tc = ⟨true, fl, midL ls fl (tl - fl + 1), [X]⟩ := by unfold cutR; rw [if_pos hv, if_pos rfl, hX]
      rw [e] at k53 hap
      rw [← hX] at hback
      simp only at hap
      generalize textL ls 0 fl fc tl tc = t at *
      obtain ⟨old, ho⟩ : ∃ x, x = midL ls fl (tl - fl + 1) := ⟨_, rfl⟩
      rw [← ho] at k53 hap hm hw hback hmB
      have k41 := p41 ls old [X] fl (by omega) (by omega) (by simp)
      rw [hap] at k41
      obtain ⟨now, hnow⟩ : ∃ x, x = appL ls fl old [X] := ⟨_, rfl⟩
      have hna : now = ls.take fl.toNat ++ ([X] ++ ls.drop (fl + (tl - fl + 1)).toNat) := by
        rw [hnow, appL, if_pos hap, hm]; simp [cutL]
      rw [← hnow] at k41
      have hnl : (now.length : Int) = ls.length - (tl - fl + 1) + 1 := by
        rw [hna]; simp only [List.length_append, List.length_take, List.length_drop, List.length_cons, List.length_nil]; omega
      have hnB := (appL_small (ls := ls) (old := old) (new := [X]) (a := fl) (b := 2400) (fun n => by have := hr n; omega) (fun n => by
        match n with
        | 0 => exact hXl.2
        | n + 1 => simp)).2
      rw [← hnow] at hnB
      have hng : now.getD fl.toNat [] = X := by
        rw [hna, List.getD_eq_getElem?_getD, List.getElem?_append_right (by omega), hl1, Nat.sub_self]; rfl
      have hpl : placeL now fl fc = true := decide_eq_true ⟨by omega, by omega, by omega, by rw [hng]; omega⟩
      have k79 := p79c_true now t fl fc (by omega) (fun n => by have := hnB n; omega) hpl 1 (by omega) (by omega) (fun n => by have := htB n; omega) (by omega) (by omega)
      rw [hng, mid_one (by omega) (by omega), hng] at k79
      have hgl : glueN t ((1 : Int) - 1).toNat = t := rfl
      rw [hgl, hback] at k79
      have hm1 : midL now fl 1 = [X] := by rw [mid_one (by omega) (by omega), hng]
      have hok2 : appOk now fl [X] old = true := decide_eq_true ⟨by omega, by omega, by simp; omega, hm1, by simp; omega⟩
      have hap2 : appL now fl [X] old = ls := by
        rw [appL, if_pos hok2]
        have d1 : cutL now none (some fl.toNat) = ls.take fl.toNat := by
          simp only [cutL]
          rw [hna, List.take_append_of_le_length (by omega), List.take_take, Nat.min_self]
        have d2 : cutL now (some (fl + (([X] : List (List UInt8)).length : Int)).toNat) none = ls.drop (fl + (tl - fl + 1)).toNat := by
          simp only [cutL, List.length_cons, List.length_nil]
          rw [hna, List.drop_append, List.drop_eq_nil_of_le (by omega), List.nil_append, hl1, show (fl + ((0 + 1 : Nat) : Int)).toNat - fl.toNat = 1 by omega]; rfl
        rw [d1, d2, hw]
      have k54 := p54w now t fl fc 0 1 true (by omega) (by omega) (by omega) hpl hmay fl fl (chC fc t) [X] old (by simp) (by omega) (by rw [hap2]; omega) (fun n => by rw [hap2]; have := hr n; omega) (by rw [hap2]; omega) hok2 k79
      have k41b := p41 now [X] old fl (by omega) (by simp) (by omega)
      rw [hok2, hap2] at k41b
      exact p17wc ls t old [X] now [X] old kd a b c d fl fc tl tc _ _ _ _ hkd0 (by omega) k27 k46 k51 k53 k41 k54 k41b k30
    · have htx := rows_whole hv
      by_cases hlast : tl = (ls.length : Int) - 1
      · rcases hcc : cutR ls 1 fl fc tl tc with ⟨ok, at', old, new⟩
        obtain ⟨f1, f2, f3, f4, f5, f6⟩ := cut_facts hv (b := 1200) hr
        rw [hcc] at k53 hap f1 f2 f3 f4 f5 f6
        simp only at hap f1 f2 f3 f4 f5 f6
        subst f1
        have k41 := p41 ls old new at' (by omega) (by rw [f3]; omega) (by omega)
        rw [hap] at k41
        exact p17we ls _ old new _ old new kd a b c d fl fc tl tc _ at' 0 0 hkd0 hlast (by omega) k27 k46 k51 k53 k41
      · have e : cutR ls 1 fl fc tl tc = ⟨true, fl, midL ls fl (tl - fl + 1), []⟩ := by unfold cutR; rw [if_pos hv, if_neg (by omega), if_neg (by omega), if_neg (by omega)]
        rw [e] at k53 hap
        simp only at hap
        rw [htx] at k51 htl htB hmay hss
        obtain ⟨old, ho⟩ : ∃ x, x = midL ls fl (tl - fl + 1) := ⟨_, rfl⟩
        rw [← ho] at k53 hap hm hw hmB k51 htl htB hmay hss
        have k41 := p41 ls old [] fl (by omega) (by omega) (by simp)
        rw [hap] at k41
        obtain ⟨now, hnow⟩ : ∃ x, x = appL ls fl old [] := ⟨_, rfl⟩
        have hna : now = ls.take fl.toNat ++ ls.drop (fl + (tl - fl + 1)).toNat := by
          rw [hnow, appL, if_pos hap, hm]; simp [cutL]
        rw [← hnow] at k41
        have hnl : (now.length : Int) = ls.length - (tl - fl + 1) := by
          rw [hna]; simp only [List.length_append, List.length_take, List.length_drop]; omega
        have hnB := (appL_small (ls := ls) (old := old) (new := []) (a := fl) (b := 1200) hr (fun n => by simp)).2
        rw [← hnow] at hnB
        have hpl : placeL now fl 0 = true := decide_eq_true ⟨by omega, by omega, by omega, by omega⟩
        have k79 := p79l_true1 now old fl 0 (by omega) (fun n => by have := hnB n; omega) hpl (by omega) (by omega) (fun n => by have := hmB n; omega)
        have hok2 : appOk now fl [] old = true := decide_eq_true ⟨by omega, by omega, by simp; omega, by simp [midL, cutL], by simp; omega⟩
        have hap2 : appL now fl [] old = ls := by
          rw [appL, if_pos hok2]
          have d1 : cutL now none (some fl.toNat) = ls.take fl.toNat := by
            simp only [cutL]
            rw [hna, List.take_append_of_le_length (by omega), List.take_take, Nat.min_self]
          have d2 : cutL now (some (fl + (([] : List (List UInt8)).length : Int)).toNat) none = ls.drop (fl + (tl - fl + 1)).toNat := by
            simp only [cutL, List.length_nil]
            rw [hna, List.drop_append, List.drop_eq_nil_of_le (by omega), List.nil_append, hl1, show (fl + ((0 : Nat) : Int)).toNat - fl.toNat = 0 by omega]; rfl
          rw [d1, d2, hw]
        have k54 := p54w now old fl 0 1 1 true (by omega) (by omega) (by omega) hpl hmay fl fl (firstL (old.getD 0 [])) [] old (by simp) (by omega) (by rw [hap2]; omega) (fun n => by rw [hap2]; have := hr n; omega) (by rw [hap2]; omega) hok2 k79
        have k41b := p41 now [] old fl (by omega) (by simp) (by omega)
        rw [hok2, hap2] at k41b
        exact p17wl ls old old [] now [] old kd a b c d fl fc tl tc _ _ _ _ hkd0 hlast (by omega) k27 k46 k51 k53 k41 k54 k41b k30

end Go.Proofs.Ytefbgdnobnemkaa.AM
