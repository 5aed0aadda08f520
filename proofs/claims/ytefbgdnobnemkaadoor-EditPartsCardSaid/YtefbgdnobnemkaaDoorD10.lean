/-
  A line that is parted and joined again: the law.
-/
import Derived.Test.YtefbgdnobnemkaaDoorD4
set_option linter.unusedSimpArgs false
set_option linter.unusedVariables false
set_option linter.unusedSectionVars false
namespace Go.Proofs.YtefbgdnobnemkaaDoor.AM
open Go Go.RowKit

theorem joinStep_facts (s : List UInt8) (c : Int) (h0 : 0 ≤ c) (h1 : c ≤ s.length) :
    0 ≤ (joinStep (cutL s none (some c.toNat), 0) (cutL s (some c.toNat) none)).2 ∧ (joinStep (cutL s none (some c.toNat), 0) (cutL s (some c.toNat) none)).2 ≤ ((joinStep (cutL s none (some c.toNat), 0) (cutL s (some c.toNat) none)).1.length : Int) ∧
    (0 < c → c < s.length → ofK ((s.getD (c - 1).toNat 0).toNat : Int) ≠ 0 → ofK ((s.getD c.toNat 0).toNat : Int) ≠ 0 → ((s.getD c.toNat 0).toNat : Int) ≠ 41 → joinStep (cutL s none (some c.toNat), 0) (cutL s (some c.toNat) none) = (cutL s none (some c.toNat) ++ [32] ++ cutL s (some c.toNat) none, c)) := by
  have htl : (cutL s none (some c.toNat)).length = c.toNat := by simp only [cutL, List.drop_zero, List.length_take]; omega
  have hdl : (cutL s (some c.toNat) none).length = s.length - c.toNat := by simp only [cutL, List.length_drop]
  refine ⟨?_, ?_, ?_⟩
  · unfold joinStep
    split
    · simp only; omega
    · simp only; split <;> omega
  · unfold joinStep
    split
    · simp only [List.length_append, List.length_cons, List.length_nil]; omega
    · simp only [List.length_append]; split <;> omega
  · intro c0 c1 b0 b1 b2
    have hd0 : (cutL s (some c.toNat) none).getD 0 0 = s.getD c.toNat 0 := by simp [cutL, List.getD_eq_getElem?_getD]
    have ht0 : (cutL s none (some c.toNat)).getD (((cutL s none (some c.toNat)).length : Int) - 1).toNat 0 = s.getD (c - 1).toNat 0 := by
      rw [htl]
      simp only [cutL, List.drop_zero, List.getD_eq_getElem?_getD]
      rw [List.getElem?_take_of_lt (by omega), show ((c.toNat : Int) - 1).toNat = (c - 1).toNat by omega]
    have hdn : cutL s (some c.toNat) none ≠ [] := fun h => by rw [h, List.length_nil] at hdl; omega
    have htn : cutL s none (some c.toNat) ≠ [] := fun h => by rw [h, List.length_nil] at htl; omega
    have htr : trimL (cutL s (some c.toNat) none) = cutL s (some c.toNat) none := (trim_cons hdn).2 (by rw [hd0]; exact b1)
    unfold joinStep
    have hsp : spacedB (cutL s none (some c.toNat)) (cutL s (some c.toNat) none) = true := decide_eq_true ⟨htn, hdn, by rw [hd0]; exact b2, by rw [ht0]; exact b0⟩
    rw [htr, if_pos hsp]
    simp only [htl]
    rw [show (c.toNat : Int) = c by omega]
set_option maxRecDepth 10000 in
set_option maxHeartbeats 8000000 in
theorem q5w (ls now o2 : List (List UInt8)) (s x : List UInt8) (a b l c col : Int) (hs : ls.getD l.toNat [] = s) (hl : 0 ≤ l ∧ l < ls.length) (hL : ls.length ≤ 1000000) (hc : 0 ≤ c ∧ c ≤ s.length) (hb : s.length ≤ 1000000)
    (hn : now.length = ls.length + 1) (n1 : now.getD l.toNat [] = cutL s none (some c.toNat)) (n2 : now.getD (l + 1).toNat [] = cutL s (some c.toNat) none) (hx : 0 ≤ col ∧ col ≤ (x.length : Int))
    (hJ : 0 < c → c < (s.length : Int) → ofK ((s.getD (c - 1).toNat 0).toNat : Int) ≠ 0 → ofK ((s.getD c.toNat 0).toNat : Int) ≠ 0 → ((s.getD c.toNat 0).toNat : Int) ≠ 41 → x = cutL s none (some c.toNat) ++ [32] ++ cutL s (some c.toNat) none ∧ col = c)
    (k27 : Pure Tryd.prog 10 [.slS ls] (.bool true)) (k28 : Pure Tryd.prog 12 [.slS ls, .int .u16 a, .int .u16 b] (.agg [.int .i64 l, .int .i64 c]))
    (k60 : Pure Tryd.prog 13 [.slS ls, .agg [.int .i64 l, .int .i64 c], .slS [[], []]] (.tup [.agg [.int .i64 l, .slS [s], .slS [cutL s none (some c.toNat), cutL s (some c.toNat) none]], .agg [.int .i64 (l + 1), .int .i64 0], .bool true]))
    (k41 : Pure Tryd.prog 21 [.slS ls, .slG 3 [.int .i64 l, .slS [s], .slS [cutL s none (some c.toNat), cutL s (some c.toNat) none]]] (.tup [.slS now, .bool true]))
    (k19 : Pure Tryd.prog 19 [.slS now, .int .i64 l, .int .i64 2] (.tup [.agg [.int .i64 l, .slS o2, .slS [x]], .int .i64 col, .bool true])) :
    Pure Tryd.prog 5 [.slS ls, .int .u16 a, .int .u16 b] (.bool true) := by
  subst hs
  refine Pure.ofT tab2_ok Tryd.func5 rfl rfl [.tmp 6] rfl (by decide) rfl ⟨176, 8, (.node (.node (.node (.node (.node (.node (.node (.node (.leaf (.slS ls)) (J 0)) (J 1)) (J 2)) (J 3)) (J 4)) (J 5)) (.node (.node (.node (.node (.node (.node (.leaf (.int .u16 b)) (J 0)) (J 1)) (J 2)) (J 3)) (J 4)) (J 5))) (.node (.node (.node (.node (.node (.node (.node (.leaf (.int .u16 a)) (J 0)) (J 1)) (J 2)) (J 3)) (J 4)) (J 5)) (J 6))), (OO 8)⟩ (by kernel_rfl) (by kernel_rfl) ?_
  repeat' (first
    | refine allProp_T ?_
    | exact trivial
    | (refine URun.id ?_; first
        | refine URun.nil ?_
        | refine URun.many tabs2 rfl rfl (by kernel_rfl) ?_ ?_
        | (refine URun.toCall 9 rfl ?_; first
          | refine URun.call tabs2 rfl rfl rfl rfl q9 rfl rfl ?_ rfl ?_)
        | (refine URun.toCall 10 rfl ?_; first
          | refine URun.call tabs2 rfl rfl rfl rfl k27 rfl rfl ?_ rfl ?_)
        | (refine URun.toCall 12 rfl ?_; first
          | refine URun.call tabs2 rfl rfl rfl rfl k28 rfl rfl ?_ rfl ?_)
        | (refine URun.toCall 13 rfl ?_; first
          | refine URun.call tabs2 rfl rfl rfl rfl k60 rfl rfl ?_ rfl ?_)
        | (refine URun.toCall 21 rfl ?_; first
          | refine URun.call tabs2 rfl rfl rfl rfl k41 rfl rfl ?_ rfl ?_)
        | (refine URun.toCall 19 rfl ?_; first
          | refine URun.call tabs2 rfl rfl rfl rfl k19 rfl rfl ?_ rfl ?_)
        | (refine URun.toCall 22 rfl ?_; first
          | refine URun.call tabs2 rfl rfl rfl rfl (p73 _) rfl rfl ?_ rfl ?_)
        | refine URun.same tabs2 rfl rfl rfl ?_
        | refine URun.same2 tabs2 rfl rfl rfl ?_
        | refine URun.yes tabs2 rfl rfl rfl rfl ?_
        | refine URun.no tabs2 rfl rfl rfl rfl ?_
        | refine URun.yes tabs2 rfl rfl (fun h => h rfl) rfl ?_
        | refine URun.no tabs2 rfl rfl (fun h => h rfl) rfl ?_
        | refine URun.yes tabs2 rfl rfl (fun h => h n1) rfl ?_
        | refine URun.no tabs2 rfl rfl (fun h => h n1) rfl ?_
        | refine URun.yes tabs2 rfl rfl (fun h => h n2) rfl ?_
        | refine URun.no tabs2 rfl rfl (fun h => h n2) rfl ?_
        | refine URun.yes tabs2 rfl rfl (Int.not_lt.mpr hx.2) rfl ?_
        | refine URun.no tabs2 rfl rfl (Int.not_lt.mpr hx.2) rfl ?_
        | refine URun.yes tabs2 rfl rfl (by omega) rfl ?_
        | refine URun.no tabs2 rfl rfl (by omega) rfl ?_
        | refine URun.yes tabs2 rfl rfl (hJ ‹_› ‹_› ‹_› ‹_› ‹_›).1 rfl ?_
        | refine URun.no tabs2 rfl rfl (hJ ‹_› ‹_› ‹_› ‹_› ‹_›).1 rfl ?_
        | refine URun.yes tabs2 rfl rfl (hJ ‹_› ‹_› ‹_› ‹_› ‹_›).2 rfl ?_
        | refine URun.no tabs2 rfl rfl (hJ ‹_› ‹_› ‹_› ‹_› ‹_›).2 rfl ?_
        | refine URun.split tabs2 rfl rfl rfl rfl (fun h => ?_) (fun h => ?_))
    | (refine TRun.id ?_; first
        | refine TRun.nil ?_
        | refine TRun.many rfl rfl (by kernel_rfl) ?_ ?_
        | (refine TRun.toCall 9 rfl ?_; first
          | refine TRun.call rfl rfl rfl rfl q9 rfl rfl ?_ rfl ?_)
        | (refine TRun.toCall 10 rfl ?_; first
          | refine TRun.call rfl rfl rfl rfl k27 rfl rfl ?_ rfl ?_)
        | (refine TRun.toCall 12 rfl ?_; first
          | refine TRun.call rfl rfl rfl rfl k28 rfl rfl ?_ rfl ?_)
        | (refine TRun.toCall 13 rfl ?_; first
          | refine TRun.call rfl rfl rfl rfl k60 rfl rfl ?_ rfl ?_)
        | (refine TRun.toCall 21 rfl ?_; first
          | refine TRun.call rfl rfl rfl rfl k41 rfl rfl ?_ rfl ?_)
        | (refine TRun.toCall 19 rfl ?_; first
          | refine TRun.call rfl rfl rfl rfl k19 rfl rfl ?_ rfl ?_)
        | (refine TRun.toCall 22 rfl ?_; first
          | refine TRun.call rfl rfl rfl rfl (p73 _) rfl rfl ?_ rfl ?_)
        | refine TRun.same rfl rfl rfl ?_
        | refine TRun.same2 rfl rfl rfl ?_
        | refine TRun.yes rfl rfl rfl rfl ?_
        | refine TRun.no rfl rfl rfl rfl ?_
        | refine TRun.yes rfl rfl (fun h => h rfl) rfl ?_
        | refine TRun.no rfl rfl (fun h => h rfl) rfl ?_
        | refine TRun.yes rfl rfl (fun h => h n1) rfl ?_
        | refine TRun.no rfl rfl (fun h => h n1) rfl ?_
        | refine TRun.yes rfl rfl (fun h => h n2) rfl ?_
        | refine TRun.no rfl rfl (fun h => h n2) rfl ?_
        | refine TRun.yes rfl rfl (Int.not_lt.mpr hx.2) rfl ?_
        | refine TRun.no rfl rfl (Int.not_lt.mpr hx.2) rfl ?_
        | refine TRun.yes rfl rfl (by omega) rfl ?_
        | refine TRun.no rfl rfl (by omega) rfl ?_
        | refine TRun.yes rfl rfl (hJ ‹_› ‹_› ‹_› ‹_› ‹_›).1 rfl ?_
        | refine TRun.no rfl rfl (hJ ‹_› ‹_› ‹_› ‹_› ‹_›).1 rfl ?_
        | refine TRun.yes rfl rfl (hJ ‹_› ‹_› ‹_› ‹_› ‹_›).2 rfl ?_
        | refine TRun.no rfl rfl (hJ ‹_› ‹_› ‹_› ‹_› ‹_›).2 rfl ?_
        | refine TRun.split rfl rfl rfl rfl (fun h => ?_) (fun h => ?_))
    | (refine HoldsT.id ?_; first
        | refine HoldsT.seq ?_
        | refine HoldsT.regionU ?_
        | refine HoldsT.drawn tabs2 ?_
        | refine HoldsT.yes rfl ?_
        | refine HoldsT.no rfl ?_
        | refine HoldsT.cond rfl (fun h => ?_) (fun h => ?_)
        | refine HoldsT.block ?_
        | refine HoldsT.ret ?_
        | refine HoldsT.skip ?_
        | refine HoldsT.exit ?_)
    | (refine okTr_intro ?_; kernel_rfl)
    | exact absurd rfl h
    | exact u8_in _
    | exact rowGk rfl rfl rfl
    | (show List.length (_ ++ [32]) + _ ≤ _; simp only [cutL, toN, Option.map_some, Option.map_none, List.length_take, List.length_drop, List.length_append, List.length_cons, List.length_nil] <;> omega)
    | refine allProp_C ?_ ?_
    | refine And.intro ?_ ?_
    | omega
    | (show _ < List.length _; omega)
    | exact rowlen_intro rfl
    | exact lenEq_intro rfl
    | exact Nat.le_of_ble_eq_true rfl
    | (simp only [AV.rowlenD, AV.rowlen, AV.ncells, mulSz, toN, Option.map_some, Option.map_none, cutL, List.length_take, List.length_drop, List.length_append, List.length_cons, List.length_nil, List.length_set, Option.some.injEq, Int.reduceToNat] <;> omega))
  all_goals exact FinC.te (y := .bool true) rfl rfl trivial rfl
set_option maxRecDepth 10000 in
set_option maxHeartbeats 8000000 in
theorem q5 (ls : List (List UInt8)) (a b : Int) (hL : ls.length ≤ 140737488355328) (hB : ∀ n : Nat, (ls.getD n []).length ≤ 140737488355328) (ha : inK .u16 a) (hb : inK .u16 b) : Pure Tryd.prog 5 [.slS ls, .int .u16 a, .int .u16 b] (.bool true) := by
  have k27 := p27 ls hL hB
  cases hok : (decide (0 < (ls.length : Int)) && lightL ls) with
  | false =>
    rw [hok] at k27
    refine Pure.ofT tab2_ok Tryd.func5 rfl rfl [.tmp 6] rfl (by decide) rfl ⟨176, 8, (.node (.node (.node (.node (.node (.node (.node (.node (.leaf (.slS ls)) (J 0)) (J 1)) (J 2)) (J 3)) (J 4)) (J 5)) (.node (.node (.node (.node (.node (.node (.leaf (.int .u16 b)) (J 0)) (J 1)) (J 2)) (J 3)) (J 4)) (J 5))) (.node (.node (.node (.node (.node (.node (.node (.leaf (.int .u16 a)) (J 0)) (J 1)) (J 2)) (J 3)) (J 4)) (J 5)) (J 6))), (OO 8)⟩ (by kernel_rfl) (by kernel_rfl) ?_
    repeat' (first
      | refine allProp_T ?_
      | exact trivial
      | (refine URun.id ?_; first
          | refine URun.nil ?_
          | refine URun.many tabs2 rfl rfl (by kernel_rfl) ?_ ?_
          | (refine URun.toCall 9 rfl ?_; first
            | refine URun.call tabs2 rfl rfl rfl rfl q9 rfl rfl ?_ rfl ?_)
          | (refine URun.toCall 10 rfl ?_; first
            | refine URun.call tabs2 rfl rfl rfl rfl k27 rfl rfl ?_ rfl ?_)
          | refine URun.same tabs2 rfl rfl rfl ?_
          | refine URun.same2 tabs2 rfl rfl rfl ?_
          | refine URun.split tabs2 rfl rfl rfl rfl (fun h => ?_) (fun h => ?_))
      | (refine TRun.id ?_; first
          | refine TRun.nil ?_
          | refine TRun.many rfl rfl (by kernel_rfl) ?_ ?_
          | (refine TRun.toCall 9 rfl ?_; first
            | refine TRun.call rfl rfl rfl rfl q9 rfl rfl ?_ rfl ?_)
          | (refine TRun.toCall 10 rfl ?_; first
            | refine TRun.call rfl rfl rfl rfl k27 rfl rfl ?_ rfl ?_)
          | refine TRun.same rfl rfl rfl ?_
          | refine TRun.same2 rfl rfl rfl ?_
          | refine TRun.split rfl rfl rfl rfl (fun h => ?_) (fun h => ?_))
      | (refine HoldsT.id ?_; first
          | refine HoldsT.seq ?_
          | refine HoldsT.regionU ?_
          | refine HoldsT.drawn tabs2 ?_
          | refine HoldsT.yes rfl ?_
          | refine HoldsT.no rfl ?_
          | refine HoldsT.cond rfl (fun h => ?_) (fun h => ?_)
          | refine HoldsT.block ?_
          | refine HoldsT.ret ?_
          | refine HoldsT.skip ?_
          | refine HoldsT.exit ?_)
      | (refine okTr_intro ?_; kernel_rfl)
      | exact absurd rfl h
      | refine allProp_C ?_ ?_
      | refine And.intro ?_ ?_
      | omega
      | (show _ < List.length _; omega)
      | exact rowlen_intro rfl
      | exact lenEq_intro rfl
      | exact Nat.le_of_ble_eq_true rfl
      | (simp only [AV.rowlenD, AV.rowlen, AV.ncells, mulSz, toN, Option.map_some, Option.map_none, cutL, List.length_take, List.length_drop, List.length_append, List.length_cons, List.length_nil, List.length_set, Option.some.injEq, Int.reduceToNat] <;> omega))
    all_goals exact FinC.te (y := .bool true) rfl rfl trivial rfl
  | true =>
    rw [hok] at k27
    obtain ⟨h0, hl, hr⟩ := light_len hok
    have k28 := p28 ls a b h0 ha hb hB
    have hp := place_ok (ls := ls) (a := a) (b := b) h0 ha.1 hb.1
    generalize plL ls a = l at *
    generalize plC ls a b = c at *
    obtain ⟨v1, v2, v3, v4⟩ := of_decide_eq_true hp
    have hrl := hr l.toNat
    have k60 := p60 ls [[], []] l c (by omega) (by simp) hB (fun n => by rcases n with _ | _ | n <;> simp) hp (by simp)
    have hm := mid_one (ls := ls) v1 v2
    generalize hs : ls.getD l.toNat [] = s at *
    have htl : (cutL s none (some c.toNat)).length = c.toNat := by simp only [cutL, List.drop_zero, List.length_take]; omega
    have hdl : (cutL s (some c.toNat) none).length = s.length - c.toNat := by simp only [cutL, List.length_drop]
    have hw : writeL s c [[], []] = [cutL s none (some c.toNat), cutL s (some c.toNat) none] := by simp [writeL]
    rw [hw, hm] at k60
    have hn2 : ∀ n : Nat, (([cutL s none (some c.toNat), cutL s (some c.toNat) none] : List (List UInt8)).getD n []).length ≤ 1200 := fun n => by
      rcases n with _ | _ | n
      · show (cutL s none (some c.toNat)).length ≤ 1200; omega
      · show (cutL s (some c.toNat) none).length ≤ 1200; omega
      · simp
    have k41 := p41 ls [s] [cutL s none (some c.toNat), cutL s (some c.toNat) none] l (by omega) (by simp) (by simp)
    have hao : appOk ls l [s] [cutL s none (some c.toNat), cutL s (some c.toNat) none] = true := decide_eq_true ⟨v1, by omega, by simp; omega, hm, by simp; omega⟩
    have hnow : appL ls l [s] [cutL s none (some c.toNat), cutL s (some c.toNat) none] = ls.take l.toNat ++ [cutL s none (some c.toNat), cutL s (some c.toNat) none] ++ ls.drop (l + 1).toNat := by
      unfold appL; rw [if_pos hao]; simp [cutL]
    have hsm := appL_small (ls := ls) (old := [s]) (new := [cutL s none (some c.toNat), cutL s (some c.toNat) none]) (a := l) hr hn2
    have hlen := app_len hao
    rw [hao] at k41
    have hlt : (ls.take l.toNat).length = l.toNat := by rw [List.length_take]; omega
    have n1 : (appL ls l [s] [cutL s none (some c.toNat), cutL s (some c.toNat) none]).getD l.toNat [] = cutL s none (some c.toNat) := by
      rw [hnow, List.getD_eq_getElem?_getD, List.append_assoc, List.getElem?_append_right (by omega), hlt, Nat.sub_self]; rfl
    have n2 : (appL ls l [s] [cutL s none (some c.toNat), cutL s (some c.toNat) none]).getD (l + 1).toNat [] = cutL s (some c.toNat) none := by
      rw [hnow, List.getD_eq_getElem?_getD, List.append_assoc, List.getElem?_append_right (by omega), hlt, show (l + 1).toNat - l.toNat = 1 by omega]; rfl
    generalize appL ls l [s] [cutL s none (some c.toNat), cutL s (some c.toNat) none] = now at *
    simp only [List.length_cons, List.length_nil] at hlen hsm
    have k19 := q19 now l 2 (by omega) (fun n => by have := hsm.2 n; omega)
    have hj : joinR now l 2 = ⟨true, l, midL now l 2, [(joinStep (cutL s none (some c.toNat), 0) (cutL s (some c.toNat) none)).1], (joinStep (cutL s none (some c.toNat), 0) (cutL s (some c.toNat) none)).2⟩ := by
      unfold joinR
      rw [if_pos ⟨by omega, v1, by omega, by omega⟩]
      have hm2 := mid_one (ls := now) (l := l + 1) (by omega) (by omega)
      rw [n2] at hm2
      have e : joinL now l 2 = joinStep (cutL s none (some c.toNat), 0) (cutL s (some c.toNat) none) := by
        unfold joinL
        rw [n1, show cutL now (some (l + 1).toNat) (some (l + 2).toNat) = [cutL s (some c.toNat) none] by rw [← hm2, midL, show l + 1 + 1 = l + 2 by omega]]
        rfl
      rw [e]
    rw [hj] at k19
    obtain ⟨j1, j2, j3⟩ := joinStep_facts s c v3 v4
    generalize joinStep (cutL s none (some c.toNat), 0) (cutL s (some c.toNat) none) = J at *
    exact q5w ls now (midL now l 2) s J.1 a b l c J.2 hs ⟨v1, v2⟩ (by omega) ⟨v3, v4⟩ (by omega) (by omega) n1 n2 ⟨j1, j2⟩ (fun c0 c1 b0 b1 b2 => by have := j3 c0 c1 b0 b1 b2; rw [this]; exact ⟨rfl, rfl⟩) k27 k28 k60 k41 k19

end Go.Proofs.YtefbgdnobnemkaaDoor.AM
