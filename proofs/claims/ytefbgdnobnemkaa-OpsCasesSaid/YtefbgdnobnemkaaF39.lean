/-
  A shift and the shift back.
-/
import Derived.Test.YtefbgdnobnemkaaF38
import Derived.Test.YtefbgdnobnemkaaF33
set_option linter.unusedSimpArgs false
set_option linter.unusedVariables false
set_option linter.unusedSectionVars false
namespace Go.Proofs.Ytefbgdnobnemkaa.AM
open Go Go.RowKit

section
variable (ls : List (List UInt8)) (a b c d n : Int) (hL : ls.length ≤ 140737488355328) (hB : ∀ n : Nat, (ls.getD n []).length ≤ 140737488355328)
set_option maxRecDepth 10000 in
set_option maxHeartbeats 8000000 in
theorem p15w (k fl fc tl tc at' at2 : Int) (old new old2 new2 now : List (List UInt8)) (hn : 0 ≤ n ∧ n ≤ 255) (hfl : 0 ≤ fl ∧ fl < now.length ∧ fl < ls.length) (hN : now.length ≤ 1000000)
    (k27 : Pure Try.prog 27 [.slS ls] (.bool true)) (k46 : Pure Try.prog 46 [.slS ls, .int .u8 1, .int .u16 a, .int .u16 b, .int .u16 c, .int .u16 d] (.agg [.int .i64 k, .int .i64 fl, .int .i64 fc, .int .i64 tl, .int .i64 tc]))
    (k48 : Pure Try.prog 48 [.slS ls, .str [62], .agg [.int .i64 k, .int .i64 fl, .int .i64 fc, .int .i64 tl, .int .i64 tc], .int .i64 (n.tmod 3 + 1)] (.tup [.agg [.int .i64 at', .slS old, .slS new], .agg [.int .i64 fl, .int .i64 (firstL (now.getD fl.toNat []))], .bool true]))
    (k41 : Pure Try.prog 41 [.slS ls, .slG 3 [.int .i64 at', .slS old, .slS new]] (.tup [.slS now, .bool true]))
    (k50 : Pure Try.prog 50 [.str (now.getD fl.toNat [])] (.int .i64 (firstL (now.getD fl.toNat []))))
    (k48b : Pure Try.prog 48 [.slS now, .str [60], .agg [.int .i64 k, .int .i64 fl, .int .i64 fc, .int .i64 tl, .int .i64 tc], .int .i64 (n.tmod 3 + 1)] (.tup [.agg [.int .i64 at2, .slS old2, .slS new2], .agg [.int .i64 fl, .int .i64 (firstL (ls.getD fl.toNat []))], .bool true]))
    (k41b : Pure Try.prog 41 [.slS now, .slG 3 [.int .i64 at2, .slS old2, .slS new2]] (.tup [.slS ls, .bool true]))
    (k30 : Pure Try.prog 30 [.slS ls, .slS ls] (.bool true)) (k50b : Pure Try.prog 50 [.str (ls.getD fl.toNat [])] (.int .i64 (firstL (ls.getD fl.toNat [])))) :
    Pure Try.prog 15 [.slS ls, .int .u16 a, .int .u16 b, .int .u16 c, .int .u16 d, .int .u8 n] (.bool true) := by
  have hn3 := tmod_in hn.1 (show (0 : Int) < 3 by omega)
  refine Pure.ofT tab2_ok Try.func15 rfl rfl [.tmp 12] rfl (by decide) rfl ⟨113, 7, (.node (.node (.node (.node (.node (.node (.node (.leaf (.slS ls)) (J 0)) (J 1)) (J 2)) (J 3)) (.node (.node (.node (.node (.leaf (.int .u16 d)) (J 0)) (J 1)) (J 2)) (J 3))) (.node (.node (.node (.node (.node (.leaf (.int .u16 b)) (J 0)) (J 1)) (J 2)) (J 3)) (J 4))) (.node (.node (.node (.node (.node (.node (.leaf (.int .u16 a)) (J 0)) (J 1)) (J 2)) (J 3)) (.node (.node (.node (.node (.leaf (.int .u8 n)) (J 0)) (J 1)) (J 2)) (J 3))) (.node (.node (.node (.node (.node (.leaf (.int .u16 c)) (J 0)) (J 1)) (J 2)) (J 3)) (J 4)))), (OO 7)⟩ (by kernel_rfl) (by kernel_rfl) ?_
  repeat' (first
    | refine allProp_T ?_
    | exact trivial
    | (refine URun.id ?_; first
        | refine URun.nil ?_
        | refine URun.many tabs2 rfl rfl (by kernel_rfl) ?_ ?_
        | (refine URun.toCall 45 rfl ?_; first
          | refine URun.call tabs2 rfl rfl rfl rfl p45 rfl rfl ?_ rfl ?_)
        | (refine URun.toCall 27 rfl ?_; first
          | refine URun.call tabs2 rfl rfl rfl rfl k27 rfl rfl ?_ rfl ?_)
        | (refine URun.toCall 46 rfl ?_; first
          | refine URun.call tabs2 rfl rfl rfl rfl k46 rfl rfl ?_ rfl ?_)
        | (refine URun.toCall 48 rfl ?_; first
          | refine URun.call tabs2 rfl rfl rfl rfl k48 rfl rfl ?_ rfl ?_
          | refine URun.call tabs2 rfl rfl rfl rfl k48b rfl rfl ?_ rfl ?_)
        | (refine URun.toCall 41 rfl ?_; first
          | refine URun.call tabs2 rfl rfl rfl rfl k41 rfl rfl ?_ rfl ?_
          | refine URun.call tabs2 rfl rfl rfl rfl k41b rfl rfl ?_ rfl ?_)
        | (refine URun.toCall 50 rfl ?_; first
          | refine URun.call tabs2 rfl rfl rfl rfl k50 rfl rfl ?_ rfl ?_
          | refine URun.call tabs2 rfl rfl rfl rfl k50b rfl rfl ?_ rfl ?_)
        | (refine URun.toCall 30 rfl ?_; first
          | refine URun.call tabs2 rfl rfl rfl rfl k30 rfl rfl ?_ rfl ?_)
        | refine URun.same tabs2 rfl rfl rfl ?_
        | refine URun.same2 tabs2 rfl rfl rfl ?_
        | refine URun.yes tabs2 rfl rfl (fun h => h rfl) rfl ?_
        | refine URun.no tabs2 rfl rfl (fun h => h rfl) rfl ?_
        | refine URun.yes tabs2 rfl rfl (fun h => h ⟨rfl, rfl⟩) rfl ?_
        | refine URun.no tabs2 rfl rfl (fun h => h ⟨rfl, rfl⟩) rfl ?_
        | refine URun.yes tabs2 rfl rfl ⟨rfl, rfl⟩ rfl ?_
        | refine URun.no tabs2 rfl rfl ⟨rfl, rfl⟩ rfl ?_
        | refine URun.yes tabs2 rfl rfl rfl rfl ?_
        | refine URun.no tabs2 rfl rfl rfl rfl ?_
        | refine URun.split tabs2 rfl rfl rfl rfl (fun h => ?_) (fun h => ?_))
    | (refine TRun.id ?_; first
        | refine TRun.nil ?_
        | refine TRun.many rfl rfl (by kernel_rfl) ?_ ?_
        | (refine TRun.toCall 45 rfl ?_; first
          | refine TRun.call rfl rfl rfl rfl p45 rfl rfl ?_ rfl ?_)
        | (refine TRun.toCall 27 rfl ?_; first
          | refine TRun.call rfl rfl rfl rfl k27 rfl rfl ?_ rfl ?_)
        | (refine TRun.toCall 46 rfl ?_; first
          | refine TRun.call rfl rfl rfl rfl k46 rfl rfl ?_ rfl ?_)
        | (refine TRun.toCall 48 rfl ?_; first
          | refine TRun.call rfl rfl rfl rfl k48 rfl rfl ?_ rfl ?_
          | refine TRun.call rfl rfl rfl rfl k48b rfl rfl ?_ rfl ?_)
        | (refine TRun.toCall 41 rfl ?_; first
          | refine TRun.call rfl rfl rfl rfl k41 rfl rfl ?_ rfl ?_
          | refine TRun.call rfl rfl rfl rfl k41b rfl rfl ?_ rfl ?_)
        | (refine TRun.toCall 50 rfl ?_; first
          | refine TRun.call rfl rfl rfl rfl k50 rfl rfl ?_ rfl ?_
          | refine TRun.call rfl rfl rfl rfl k50b rfl rfl ?_ rfl ?_)
        | (refine TRun.toCall 30 rfl ?_; first
          | refine TRun.call rfl rfl rfl rfl k30 rfl rfl ?_ rfl ?_)
        | refine TRun.same rfl rfl rfl ?_
        | refine TRun.same2 rfl rfl rfl ?_
        | refine TRun.yes rfl rfl (fun h => h rfl) rfl ?_
        | refine TRun.no rfl rfl (fun h => h rfl) rfl ?_
        | refine TRun.yes rfl rfl (fun h => h ⟨rfl, rfl⟩) rfl ?_
        | refine TRun.no rfl rfl (fun h => h ⟨rfl, rfl⟩) rfl ?_
        | refine TRun.yes rfl rfl ⟨rfl, rfl⟩ rfl ?_
        | refine TRun.no rfl rfl ⟨rfl, rfl⟩ rfl ?_
        | refine TRun.yes rfl rfl rfl rfl ?_
        | refine TRun.no rfl rfl rfl rfl ?_
        | refine TRun.split rfl rfl rfl rfl (fun h => ?_) (fun h => ?_))
    | (refine HoldsT.id ?_; first
        | refine HoldsT.seq ?_
        | refine HoldsT.regionU ?_
        | refine HoldsT.drawn tabs2 ?_
        | refine HoldsT.yes rfl ?_
        | refine HoldsT.no rfl ?_
        | refine HoldsT.cond rfl (fun h => ?_) (fun h => ?_)
        | refine HoldsT.block ?_
        | refine HoldsT.ret ?_
        | refine HoldsT.skip ?_
        | refine HoldsT.exit ?_)
    | (refine okTr_intro ?_; kernel_rfl)
    | exact absurd rfl h
    | exact rowGk rfl rfl rfl
    | refine allProp_C ?_ ?_
    | refine And.intro ?_ ?_
    | omega
    | (show _ < List.length _; omega)
    | exact rowlen_intro rfl
    | exact lenEq_intro rfl
    | exact Nat.le_of_ble_eq_true rfl
    | (simp only [AV.rowlenD, AV.rowlen, AV.ncells, mulSz, toN, Option.map_some, Option.map_none, cutL, List.length_take, List.length_drop, List.length_append, List.length_cons, List.length_nil, List.length_set, Option.some.injEq, Int.reduceToNat] <;> omega))
  all_goals exact FinC.te (y := .bool true) rfl rfl trivial rfl

theorem clamp_first {now : List (List UInt8)} {fl : Int} (h0 : 0 ≤ fl) (h1 : fl < now.length) : clL now (min fl ((now.length : Int) - 1)) = fl ∧ clC now (min fl ((now.length : Int) - 1)) (firstL (now.getD (min fl ((now.length : Int) - 1)).toNat [])) false = firstL (now.getD fl.toNat []) := by
  have e : min fl ((now.length : Int) - 1) = fl := by omega
  have e2 : clL now fl = fl := by unfold clL; omega
  rw [e]
  refine ⟨e2, ?_⟩
  have := firstL_in (now.getD fl.toNat [])
  unfold clC
  rw [e2]
  show min (max (firstL (now.getD fl.toNat [])) 0) (max (((now.getD fl.toNat []).length : Int) - 1) 0) = firstL (now.getD fl.toNat [])
  omega
theorem ext_getD {x y : List (List UInt8)} (hl : x.length = y.length) (h : ∀ i : Nat, x.getD i [] = y.getD i []) : x = y := by
  apply List.ext_getElem hl
  intro i h1 h2
  have := h i
  simpa [h1, h2] using this
include hL hB
set_option maxRecDepth 10000 in
set_option maxHeartbeats 8000000 in
theorem p15 (ha : inK .u16 a) (hb : inK .u16 b) (hc : inK .u16 c) (hd : inK .u16 d) (hn : inK .u8 n) : Pure Try.prog 15 [.slS ls, .int .u16 a, .int .u16 b, .int .u16 c, .int .u16 d, .int .u8 n] (.bool true) := by
  have k27 := p27 ls hL hB
  cases hok : (decide (0 < (ls.length : Int)) && lightL ls) with
  | false =>
    rw [hok] at k27
    refine Pure.ofT tab2_ok Try.func15 rfl rfl [.tmp 12] rfl (by decide) rfl ⟨113, 7, (.node (.node (.node (.node (.node (.node (.node (.leaf (.slS ls)) (J 0)) (J 1)) (J 2)) (J 3)) (.node (.node (.node (.node (.leaf (.int .u16 d)) (J 0)) (J 1)) (J 2)) (J 3))) (.node (.node (.node (.node (.node (.leaf (.int .u16 b)) (J 0)) (J 1)) (J 2)) (J 3)) (J 4))) (.node (.node (.node (.node (.node (.node (.leaf (.int .u16 a)) (J 0)) (J 1)) (J 2)) (J 3)) (.node (.node (.node (.node (.leaf (.int .u8 n)) (J 0)) (J 1)) (J 2)) (J 3))) (.node (.node (.node (.node (.node (.leaf (.int .u16 c)) (J 0)) (J 1)) (J 2)) (J 3)) (J 4)))), (OO 7)⟩ (by kernel_rfl) (by kernel_rfl) ?_
    repeat' (first
      | refine allProp_T ?_
      | exact trivial
      | (refine URun.id ?_; first
          | refine URun.nil ?_
          | refine URun.many tabs2 rfl rfl (by kernel_rfl) ?_ ?_
          | (refine URun.toCall 45 rfl ?_; first
            | refine URun.call tabs2 rfl rfl rfl rfl p45 rfl rfl ?_ rfl ?_)
          | (refine URun.toCall 27 rfl ?_; first
            | refine URun.call tabs2 rfl rfl rfl rfl k27 rfl rfl ?_ rfl ?_)
          | refine URun.same tabs2 rfl rfl rfl ?_
          | refine URun.same2 tabs2 rfl rfl rfl ?_
          | refine URun.split tabs2 rfl rfl rfl rfl (fun h => ?_) (fun h => ?_))
      | (refine TRun.id ?_; first
          | refine TRun.nil ?_
          | refine TRun.many rfl rfl (by kernel_rfl) ?_ ?_
          | (refine TRun.toCall 45 rfl ?_; first
            | refine TRun.call rfl rfl rfl rfl p45 rfl rfl ?_ rfl ?_)
          | (refine TRun.toCall 27 rfl ?_; first
            | refine TRun.call rfl rfl rfl rfl k27 rfl rfl ?_ rfl ?_)
          | refine TRun.same rfl rfl rfl ?_
          | refine TRun.same2 rfl rfl rfl ?_
          | refine TRun.split rfl rfl rfl rfl (fun h => ?_) (fun h => ?_))
      | (refine HoldsT.id ?_; first
          | refine HoldsT.seq ?_
          | refine HoldsT.regionU ?_
          | refine HoldsT.drawn tabs2 ?_
          | refine HoldsT.yes rfl ?_
          | refine HoldsT.no rfl ?_
          | refine HoldsT.cond rfl (fun h => ?_) (fun h => ?_)
          | refine HoldsT.block ?_
          | refine HoldsT.ret ?_
          | refine HoldsT.skip ?_
          | refine HoldsT.exit ?_)
      | (refine okTr_intro ?_; kernel_rfl)
      | exact absurd rfl h
      | refine allProp_C ?_ ?_
      | refine And.intro ?_ ?_
      | omega
      | (show _ < List.length _; omega)
      | exact rowlen_intro rfl
      | exact lenEq_intro rfl
      | exact Nat.le_of_ble_eq_true rfl
      | (simp only [AV.rowlenD, AV.rowlen, AV.ncells, mulSz, toN, Option.map_some, Option.map_none, cutL, List.length_take, List.length_drop, List.length_append, List.length_cons, List.length_nil, List.length_set, Option.some.injEq, Int.reduceToNat] <;> omega))
    all_goals exact FinC.te (y := .bool true) rfl rfl trivial rfl
  | true =>
    rw [hok] at k27
    obtain ⟨h0, hl, hr⟩ := light_len hok
    have k46 := p46 ls 1 a b c d (by omega) h0 (by omega) ha hb hc hd (fun n => by have := hr n; omega)
    have hv := rg_valid ls 1 a b c d h0 (by omega) ha.1 hb.1 hc.1 hd.1
    rcases hrg : rgL ls 1 a b c d with ⟨k, fl, fc, tl, tc⟩
    rw [hrg] at k46 hv
    obtain ⟨hv, hk⟩ := hv
    simp only at hv hk
    have hk : k = 1 := hk
    have k46 : Pure Try.prog 46 [.slS ls, .int .u8 1, .int .u16 a, .int .u16 b, .int .u16 c, .int .u16 d] (.agg [.int .i64 k, .int .i64 fl, .int .i64 fc, .int .i64 tl, .int .i64 tc]) := k46
    obtain ⟨v1, v2⟩ := validL_spec hv
    have hn0 : 0 ≤ n ∧ n ≤ 255 := hn
    have hn3 := tmod_in hn0.1 (show (0 : Int) < 3 by omega)
    have k69 := p69r ls k fl fc tl tc (n.tmod 3 + 1) (by omega) (fun n => by have := hr n; omega) hv (by omega)
    generalize hm : n.tmod 3 + 1 = m at *
    have hmm : min m 1024 = m := by omega
    rw [hmm] at k69
    have hF := app_each (F := fun i => shR (ls.getD i.toNat []) m) v1.1 v1.2.1 v1.2.2
    have hnl := eachL_length (fun i => shR (ls.getD i.toNat []) m) fl (tl - fl + 1).toNat
    have hol := mid_len (ls := ls) (a := fl) (n := tl - fl + 1) (by omega) (by omega) (by omega)
    have hnb := each_getD_le (F := fun i => shR (ls.getD i.toNat []) m) (a := fl) (b := 2000) (m := (tl - fl + 1).toNat) (fun i _ => by
      have := hr (fl + (i : Nat)).toNat
      simp only [shR]
      split
      · simp
      · rw [List.length_append, spc_len]; omega)
    have hs := (appL_small (ls := ls) (old := midL ls fl (tl - fl + 1)) (a := fl) (b := 2000) (fun n => by have := hr n; omega) hnb).2
    obtain ⟨f1, f2, f3⟩ := hF
    have k48 := p48r ls k fl fc tl tc m (by omega) (fun n => by have := hr n; omega) hv fl _ _ (by omega) (by omega) (by omega) (fun n => by have := hs n; omega) (by omega) f1 k69
    have k41 := p41 ls (midL ls fl (tl - fl + 1)) (eachL (fun i => shR (ls.getD i.toNat []) m) fl (tl - fl + 1).toNat) fl (by omega) (by omega) (by omega)
    rw [f1] at k41
    unfold doS at k48
    generalize midL ls fl (tl - fl + 1) = old at *
    generalize eachL (fun i => shR (ls.getD i.toNat []) m) fl (tl - fl + 1).toNat = new at *
    generalize appL ls fl old new = now at *
    obtain ⟨g1, g2⟩ := clamp_first (now := now) v1.1 (by omega)
    rw [g1, g2] at k48
    have hv2 : validL now k fl fc tl tc = true := by
      unfold validL
      rw [hk, decide_eq_true (show 0 ≤ fl ∧ fl ≤ tl ∧ tl < now.length by omega)]
      simp
    have k69b := p69l now k fl fc tl tc m (by omega) (fun n => by have := hs n; omega) hv2 (by omega)
    rw [hmm] at k69b
    have hG := app_each (ls := now) (F := fun i => shLf (now.getD i.toNat []) m) (fl := fl) (tl := tl) v1.1 v1.2.1 (by omega)
    have hnl2 := eachL_length (fun i => shLf (now.getD i.toNat []) m) fl (tl - fl + 1).toNat
    have hol2 := mid_len (ls := now) (a := fl) (n := tl - fl + 1) (by omega) (by omega) (by omega)
    obtain ⟨j1, j2, j3⟩ := hG
    have hback : appL now fl (midL now fl (tl - fl + 1)) (eachL (fun i => shLf (now.getD i.toNat []) m) fl (tl - fl + 1).toNat) = ls := by
      refine ext_getD (by omega) fun i => ?_
      rw [j3 i]
      split
      · rename_i hi
        simp only [Int.toNat_natCast]
        rw [f3 i, if_pos hi]
        simp only [Int.toNat_natCast]
        exact shift_back (by omega)
      · rename_i hi
        rw [f3 i, if_neg hi]
    have k48b := p48l now k fl fc tl tc m (by omega) (fun n => by have := hs n; omega) hv2 fl _ _ (by omega) (by omega) (by rw [hback]; omega) (fun n => by rw [hback]; have := hr n; omega) (by rw [hback]; omega) j1 k69b
    have k41b := p41 now (midL now fl (tl - fl + 1)) (eachL (fun i => shLf (now.getD i.toNat []) m) fl (tl - fl + 1).toNat) fl (by omega) (by omega) (by omega)
    rw [j1, hback] at k41b
    unfold doS at k48b
    rw [hback] at k48b
    obtain ⟨g3, g4⟩ := clamp_first (now := ls) v1.1 (by omega)
    rw [g3, g4] at k48b
    have k30 := p30 ls ls (by omega)
    rw [decide_eq_true rfl] at k30
    subst hm
    exact p15w ls a b c d n k fl fc tl tc fl fl old new _ _ now hn0 (by omega) (by omega) k27 k46 k48 k41 (p50 _ (by have := hs fl.toNat; omega)) k48b k41b k30 (p50 _ (by have := hr fl.toNat; omega))
end

end Go.Proofs.Ytefbgdnobnemkaa.AM
