/-
  What was cut, put back: walked.
-/
import Derived.Test.YtefbgdnobnemkaaF56
import Derived.Test.YtefbgdnobnemkaaF51
import Derived.Test.YtefbgdnobnemkaaF32
import Derived.Test.YtefbgdnobnemkaaF38
set_option linter.unusedSimpArgs false
set_option linter.unusedVariables false
set_option linter.unusedSectionVars false
namespace Go.Proofs.Ytefbgdnobnemkaa.AM
open Go Go.RowKit

theorem writeL_getD (s : List UInt8) (c : Int) (t : List (List UInt8)) (h : 0 < t.length) : (writeL s c t).length = t.length ∧ ∀ i : Nat, i < t.length → (writeL s c t).getD i [] = (if i = 0 then s.take c.toNat else []) ++ t.getD i [] ++ (if i = t.length - 1 then s.drop c.toNat else []) := by
  unfold writeL
  refine ⟨by simp, fun i hi => ?_⟩
  have e1 : ((t.length : Int) - 1).toNat = t.length - 1 := by omega
  have e2 : ∀ j : Nat, j < t.length → (t.set 0 (cutL s none (some c.toNat) ++ t.getD 0 [])).getD j [] = (if j = 0 then s.take c.toNat else []) ++ t.getD j [] := fun j hj => by
    rw [List.getD_eq_getElem?_getD, List.getElem?_set]
    by_cases h0 : 0 = j
    · subst h0; rw [if_pos rfl, if_pos h, if_pos rfl]; rfl
    · rw [if_neg h0, if_neg (fun e => h0 e.symm), List.nil_append, List.getD_eq_getElem?_getD]
  rw [e1, List.getD_eq_getElem?_getD, List.getElem?_set]
  by_cases hl : t.length - 1 = i
  · rw [if_pos hl, if_pos (by simp; omega), if_pos hl.symm, Option.getD_some, hl, e2 i hi]; rfl
  · rw [if_neg hl, if_neg (show ¬ i = t.length - 1 from fun e => hl e.symm), List.append_nil, ← List.getD_eq_getElem?_getD, e2 i hi]

theorem ext_getL {x y : List (List UInt8)} (hl : x.length = y.length) (h : ∀ i : Nat, x.getD i [] = y.getD i []) : x = y := by
  apply List.ext_getElem hl
  intro i h1 h2
  have := h i
  simpa [h1, h2] using this
/-- Bytes that were cut out, put back. -/
theorem put_back {ls : List (List UInt8)} {fl fc tl tc : Int} (hv : validL ls 0 fl fc tl tc = true) :
    writeL ((ls.getD fl.toNat []).take fc.toNat ++ (ls.getD tl.toNat []).drop tc.toNat) fc (textL ls 0 fl fc tl tc) = midL ls fl (tl - fl + 1) := by
  obtain ⟨hv1, hv2⟩ := validL_spec hv
  have hz : (0 ≤ fc ∧ fc ≤ ((ls.getD fl.toNat []).length : Int)) ∧ (0 ≤ tc ∧ tc ≤ ((ls.getD tl.toNat []).length : Int)) ∧ (fl = tl → fc ≤ tc) := by
    rcases hv2 with ⟨_, q1, q2, q3⟩ | q | q
    · exact ⟨q1, q2, q3⟩
    · omega
    · omega
  have ht : textL ls 0 fl fc tl tc = (List.range (tl - fl + 1).toNat).map fun i => rowT ls 0 fl fc tl tc (fl + (i : Nat)) := by
    unfold textL; rw [if_pos hv, rowsT_map]
  have htl : (textL ls 0 fl fc tl tc).length = (tl - fl + 1).toNat := by rw [ht]; simp
  have htg : ∀ i : Nat, i < (tl - fl + 1).toNat → (textL ls 0 fl fc tl tc).getD i [] = rowT ls 0 fl fc tl tc (fl + (i : Nat)) := fun i hi => by
    rw [ht, List.getD_eq_getElem?_getD, List.getElem?_map, List.getElem?_range hi]; rfl
  obtain ⟨w1, w2⟩ := writeL_getD ((ls.getD fl.toNat []).take fc.toNat ++ (ls.getD tl.toNat []).drop tc.toNat) fc (textL ls 0 fl fc tl tc) (by omega)
  have hm := mid_len (ls := ls) (a := fl) (n := tl - fl + 1) (by omega) (by omega) (by omega)
  refine ext_getL (by omega) fun i => ?_
  by_cases hi : i < (tl - fl + 1).toNat
  · have hmg : (midL ls fl (tl - fl + 1)).getD i [] = ls.getD (fl + (i : Nat)).toNat [] := by
      rw [mid_map (by omega) (by omega) (by omega), List.getD_eq_getElem?_getD, List.getElem?_map, List.getElem?_range hi]; rfl
    rw [w2 i (by omega), htg i hi, htl, hmg]
    have hA : ((ls.getD fl.toNat []).take fc.toNat).length = fc.toNat := by rw [List.length_take]; omega
    have e1 : ((ls.getD fl.toNat []).take fc.toNat ++ (ls.getD tl.toNat []).drop tc.toNat).take fc.toNat = (ls.getD fl.toNat []).take fc.toNat := by
      rw [List.take_append_of_le_length (by omega), List.take_take, Nat.min_self]
    have e2 : ((ls.getD fl.toNat []).take fc.toNat ++ (ls.getD tl.toNat []).drop tc.toNat).drop fc.toNat = (ls.getD tl.toNat []).drop tc.toNat := by
      rw [List.drop_append_of_le_length (by omega), List.drop_eq_nil_of_le (by omega), List.nil_append]
    rw [e1, e2]
    have c1 : colF ls 0 fl fc (fl + (i : Nat)) = if fl + (i : Nat) = fl then fc else 0 := if_pos rfl
    have c2 : colT ls 0 tl tc (fl + (i : Nat)) = if fl + (i : Nat) = tl then tc else lenL ls (fl + (i : Nat)) := if_pos rfl
    unfold rowT
    rw [c1, c2]
    unfold lenL
    by_cases h0 : i = 0
    · subst h0
      simp only [Int.natCast_zero, Int.add_zero, if_true]
      by_cases h1 : fl = tl
      · rw [if_pos h1, if_pos (show 0 = (tl - fl + 1).toNat - 1 by omega)]
        subst h1
        simp only [cutL]
        generalize ls.getD fl.toNat [] = s at *
        have : s.take tc.toNat = s.take fc.toNat ++ (s.take tc.toNat).drop fc.toNat := by
          have h := (List.take_append_drop fc.toNat (s.take tc.toNat)).symm
          rwa [List.take_take, Nat.min_eq_left (by omega)] at h
        rw [← this, List.take_append_drop]
      · rw [if_neg h1, if_neg (show ¬ 0 = (tl - fl + 1).toNat - 1 by omega), List.append_nil]
        simp only [cutL, Int.toNat_natCast, List.take_length, List.take_append_drop]
    · rw [if_neg h0, if_neg (show ¬ fl + (i : Nat) = fl by omega), List.nil_append]
      by_cases h1 : fl + (i : Nat) = tl
      · rw [if_pos h1, if_pos (show i = (tl - fl + 1).toNat - 1 by omega), h1]
        simp only [cutL, Int.toNat_zero, List.drop_zero, List.take_append_drop]
      · rw [if_neg h1, if_neg (show ¬ i = (tl - fl + 1).toNat - 1 by omega), List.append_nil]
        simp only [cutL, Int.toNat_zero, List.drop_zero, Int.toNat_natCast, List.take_length]
  · rw [List.getD_eq_getElem?_getD, List.getElem?_eq_none (by omega), List.getD_eq_getElem?_getD, List.getElem?_eq_none (by omega)]

theorem rows_whole {ls : List (List UInt8)} {fl fc tl tc : Int} (hv : validL ls 1 fl fc tl tc = true) : textL ls 1 fl fc tl tc = midL ls fl (tl - fl + 1) := by
  obtain ⟨hv1, hv2⟩ := validL_spec hv
  unfold textL
  rw [if_pos hv, rowsT_map, mid_map (by omega) (by omega) (by omega)]
  apply List.map_congr_left
  intro i _
  unfold rowT
  have c1 : colF ls 1 fl fc (fl + (i : Nat)) = 0 := by unfold colF; rw [if_neg (by omega), if_neg (by omega)]
  have c2 : colT ls 1 tl tc (fl + (i : Nat)) = lenL ls (fl + (i : Nat)) := by unfold colT; rw [if_neg (by omega), if_neg (by omega)]
  rw [c1, c2]
  exact (cut_all rfl (by unfold lenL; omega)).symm
theorem noLF_cut {s : List UInt8} (h : noLF s = true) (a b : Option Nat) : noLF (cutL s a b) = true := by
  unfold noLF at *
  rw [List.all_eq_true] at *
  intro x hx
  apply h
  cases a <;> cases b <;> simp only [cutL] at hx
  · exact hx
  · exact List.mem_of_mem_take hx
  · exact List.mem_of_mem_drop hx
  · exact List.mem_of_mem_take (List.mem_of_mem_drop hx)
theorem getD_noLF {ls : List (List UInt8)} (h : ls.all noLF = true) (n : Nat) : noLF (ls.getD n []) = true := by
  rw [List.all_eq_true] at h
  by_cases hn : n < ls.length
  · have : ls.getD n [] = ls[n] := by simp [hn]
    rw [this]; exact h _ (List.getElem_mem hn)
  · rw [List.getD_eq_getElem?_getD, List.getElem?_eq_none (by omega)]; rfl
theorem text_noLF {ls : List (List UInt8)} (h : ls.all noLF = true) (k fl fc tl tc : Int) : (textL ls k fl fc tl tc).all noLF = true := by
  unfold textL
  split
  · rw [rowsT_map, List.all_eq_true]
    intro x hx
    obtain ⟨i, _, rfl⟩ := List.mem_map.1 hx
    exact noLF_cut (getD_noLF h _) _ _
  · rfl
theorem parts_whole {ls : List (List UInt8)} {a n : Int} (h0 : 0 ≤ a) (h1 : 0 ≤ n) (h2 : a + n ≤ ls.length) : ls.take a.toNat ++ midL ls a n ++ ls.drop (a + n).toNat = ls := by
  simp only [midL, cutL]
  have e : ls.take (a + n).toNat = ls.take a.toNat ++ (ls.take (a + n).toNat).drop a.toNat := by
    have := (List.take_append_drop a.toNat (ls.take (a + n).toNat)).symm
    rwa [List.take_take, Nat.min_eq_left (by omega)] at this
  rw [← e, List.take_append_drop]

set_option maxRecDepth 10000 in
set_option maxHeartbeats 8000000 in
theorem p17wc (ls t old new now old2 new2 : List (List UInt8)) (kd a b c d fl fc tl tc at' at2 x y : Int) (hkd : 0 ≤ kd ∧ kd ≤ 255) (hl : ls.length ≤ 1000000)
    (k27 : Pure Try.prog 27 [.slS ls] (.bool true)) (k46 : Pure Try.prog 46 [.slS ls, .int .u8 (kd.tmod 2), .int .u16 a, .int .u16 b, .int .u16 c, .int .u16 d] (.agg [.int .i64 0, .int .i64 fl, .int .i64 fc, .int .i64 tl, .int .i64 tc])) (k51 : Pure Try.prog 51 [.slS ls, .agg [.int .i64 0, .int .i64 fl, .int .i64 fc, .int .i64 tl, .int .i64 tc]] (.slS t))
    (k53 : Pure Try.prog 53 [.slS ls, .agg [.int .i64 0, .int .i64 fl, .int .i64 fc, .int .i64 tl, .int .i64 tc]] (.tup [.agg [.int .i64 at', .slS old, .slS new], .bool true]))
    (k41 : Pure Try.prog 41 [.slS ls, .slG 3 [.int .i64 at', .slS old, .slS new]] (.tup [.slS now, .bool true]))
    (k54 : Pure Try.prog 54 [.slS now, .agg [.int .i64 fl, .int .i64 fc], .agg [.int .i64 0, .slS t], .bool true, .int .i64 1] (.tup [.agg [.int .i64 at2, .slS old2, .slS new2], .agg [.int .i64 x, .int .i64 y], .bool true]))
    (k41b : Pure Try.prog 41 [.slS now, .slG 3 [.int .i64 at2, .slS old2, .slS new2]] (.tup [.slS ls, .bool true]))
    (k30 : Pure Try.prog 30 [.slS ls, .slS ls] (.bool true))
    : Pure Try.prog 17 [.slS ls, .int .u8 kd, .int .u16 a, .int .u16 b, .int .u16 c, .int .u16 d] (.bool true) := by
  have hk2 := tmod_in hkd.1 (show (0 : Int) < 2 by omega)
  refine Pure.ofT tab2_ok Try.func17 rfl rfl [.tmp 12] rfl (by decide) rfl ⟨109, 7, (.node (.node (.node (.node (.node (.node (.node (.leaf (.slS ls)) (J 0)) (J 1)) (J 2)) (J 3)) (.node (.node (.node (.node (.leaf (.int .u16 c)) (J 0)) (J 1)) (J 2)) (J 3))) (.node (.node (.node (.node (.node (.leaf (.int .u16 a)) (J 0)) (J 1)) (J 2)) (J 3)) (J 4))) (.node (.node (.node (.node (.node (.node (.leaf (.int .u8 kd)) (J 0)) (J 1)) (J 2)) (J 3)) (.node (.node (.node (.node (.leaf (.int .u16 d)) (J 0)) (J 1)) (J 2)) (J 3))) (.node (.node (.node (.node (.node (.leaf (.int .u16 b)) (J 0)) (J 1)) (J 2)) (J 3)) (J 4)))), (OO 7)⟩ (by kernel_rfl) (by kernel_rfl) ?_
  repeat' (first
    | refine allProp_T ?_
    | exact trivial
    | (refine URun.id ?_; first
        | refine URun.nil ?_
        | refine URun.many tabs2 rfl rfl (by kernel_rfl) ?_ ?_
        | (refine URun.toCall 52 rfl ?_; first
          | refine URun.call tabs2 rfl rfl rfl rfl p52 rfl rfl ?_ rfl ?_)
        | (refine URun.toCall 27 rfl ?_; first
          | refine URun.call tabs2 rfl rfl rfl rfl k27 rfl rfl ?_ rfl ?_)
        | (refine URun.toCall 46 rfl ?_; first
          | refine URun.call tabs2 rfl rfl rfl rfl k46 rfl rfl ?_ rfl ?_)
        | (refine URun.toCall 51 rfl ?_; first
          | refine URun.call tabs2 rfl rfl rfl rfl k51 rfl rfl ?_ rfl ?_)
        | (refine URun.toCall 53 rfl ?_; first
          | refine URun.call tabs2 rfl rfl rfl rfl k53 rfl rfl ?_ rfl ?_)
        | (refine URun.toCall 41 rfl ?_; first
          | refine URun.call tabs2 rfl rfl rfl rfl k41 rfl rfl ?_ rfl ?_
          | refine URun.call tabs2 rfl rfl rfl rfl k41b rfl rfl ?_ rfl ?_)
        | (refine URun.toCall 54 rfl ?_; first
          | refine URun.call tabs2 rfl rfl rfl rfl k54 rfl rfl ?_ rfl ?_)
        | (refine URun.toCall 30 rfl ?_; first
          | refine URun.call tabs2 rfl rfl rfl rfl k30 rfl rfl ?_ rfl ?_)
        | refine URun.same tabs2 rfl rfl rfl ?_
        | refine URun.same2 tabs2 rfl rfl rfl ?_
        | refine URun.yes tabs2 rfl rfl rfl rfl ?_
        | refine URun.no tabs2 rfl rfl rfl rfl ?_
        | refine URun.yes tabs2 rfl rfl (by decide) rfl ?_
        | refine URun.no tabs2 rfl rfl (by decide) rfl ?_
        | refine URun.split tabs2 rfl rfl rfl rfl (fun h => ?_) (fun h => ?_))
    | (refine TRun.id ?_; first
        | refine TRun.nil ?_
        | refine TRun.many rfl rfl (by kernel_rfl) ?_ ?_
        | (refine TRun.toCall 52 rfl ?_; first
          | refine TRun.call rfl rfl rfl rfl p52 rfl rfl ?_ rfl ?_)
        | (refine TRun.toCall 27 rfl ?_; first
          | refine TRun.call rfl rfl rfl rfl k27 rfl rfl ?_ rfl ?_)
        | (refine TRun.toCall 46 rfl ?_; first
          | refine TRun.call rfl rfl rfl rfl k46 rfl rfl ?_ rfl ?_)
        | (refine TRun.toCall 51 rfl ?_; first
          | refine TRun.call rfl rfl rfl rfl k51 rfl rfl ?_ rfl ?_)
        | (refine TRun.toCall 53 rfl ?_; first
          | refine TRun.call rfl rfl rfl rfl k53 rfl rfl ?_ rfl ?_)
        | (refine TRun.toCall 41 rfl ?_; first
          | refine TRun.call rfl rfl rfl rfl k41 rfl rfl ?_ rfl ?_
          | refine TRun.call rfl rfl rfl rfl k41b rfl rfl ?_ rfl ?_)
        | (refine TRun.toCall 54 rfl ?_; first
          | refine TRun.call rfl rfl rfl rfl k54 rfl rfl ?_ rfl ?_)
        | (refine TRun.toCall 30 rfl ?_; first
          | refine TRun.call rfl rfl rfl rfl k30 rfl rfl ?_ rfl ?_)
        | refine TRun.same rfl rfl rfl ?_
        | refine TRun.same2 rfl rfl rfl ?_
        | refine TRun.yes rfl rfl rfl rfl ?_
        | refine TRun.no rfl rfl rfl rfl ?_
        | refine TRun.yes rfl rfl (by decide) rfl ?_
        | refine TRun.no rfl rfl (by decide) rfl ?_
        | refine TRun.split rfl rfl rfl rfl (fun h => ?_) (fun h => ?_))
    | (refine HoldsT.id ?_; first
        | refine HoldsT.seq ?_
        | refine HoldsT.regionU ?_
        | refine HoldsT.drawn tabs2 ?_
        | refine HoldsT.yes rfl ?_
        | refine HoldsT.no rfl ?_
        | refine HoldsT.cond rfl (fun h => ?_) (fun h => ?_)
        | refine HoldsT.block ?_
        | refine HoldsT.ret ?_
        | refine HoldsT.skip ?_
        | refine HoldsT.exit ?_)
    | (refine okTr_intro ?_; kernel_rfl)
    | exact absurd rfl h
    | exact rowGk rfl rfl rfl
    | refine allProp_C ?_ ?_
    | refine And.intro ?_ ?_
    | omega
    | (show _ < List.length _; omega)
    | exact rowlen_intro rfl
    | exact lenEq_intro rfl
    | exact Nat.le_of_ble_eq_true rfl
    | (simp only [AV.rowlenD, AV.rowlen, AV.ncells, mulSz, toN, Option.map_some, Option.map_none, cutL, List.length_take, List.length_drop, List.length_append, List.length_cons, List.length_nil, List.length_set, Option.some.injEq, Int.reduceToNat] <;> omega))
  all_goals exact FinC.te (y := .bool true) rfl rfl trivial rfl

set_option maxRecDepth 10000 in
set_option maxHeartbeats 8000000 in
theorem p17wl (ls t old new now old2 new2 : List (List UInt8)) (kd a b c d fl fc tl tc at' at2 x y : Int) (hkd : 0 ≤ kd ∧ kd ≤ 255) (hne : ¬ tl = (ls.length : Int) - 1) (hl : ls.length ≤ 1000000)
    (k27 : Pure Try.prog 27 [.slS ls] (.bool true)) (k46 : Pure Try.prog 46 [.slS ls, .int .u8 (kd.tmod 2), .int .u16 a, .int .u16 b, .int .u16 c, .int .u16 d] (.agg [.int .i64 1, .int .i64 fl, .int .i64 fc, .int .i64 tl, .int .i64 tc])) (k51 : Pure Try.prog 51 [.slS ls, .agg [.int .i64 1, .int .i64 fl, .int .i64 fc, .int .i64 tl, .int .i64 tc]] (.slS t))
    (k53 : Pure Try.prog 53 [.slS ls, .agg [.int .i64 1, .int .i64 fl, .int .i64 fc, .int .i64 tl, .int .i64 tc]] (.tup [.agg [.int .i64 at', .slS old, .slS new], .bool true]))
    (k41 : Pure Try.prog 41 [.slS ls, .slG 3 [.int .i64 at', .slS old, .slS new]] (.tup [.slS now, .bool true]))
    (k54 : Pure Try.prog 54 [.slS now, .agg [.int .i64 fl, .int .i64 0], .agg [.int .i64 1, .slS t], .bool true, .int .i64 1] (.tup [.agg [.int .i64 at2, .slS old2, .slS new2], .agg [.int .i64 x, .int .i64 y], .bool true]))
    (k41b : Pure Try.prog 41 [.slS now, .slG 3 [.int .i64 at2, .slS old2, .slS new2]] (.tup [.slS ls, .bool true]))
    (k30 : Pure Try.prog 30 [.slS ls, .slS ls] (.bool true))
    : Pure Try.prog 17 [.slS ls, .int .u8 kd, .int .u16 a, .int .u16 b, .int .u16 c, .int .u16 d] (.bool true) := by
  have hk2 := tmod_in hkd.1 (show (0 : Int) < 2 by omega)
  refine Pure.ofT tab2_ok Try.func17 rfl rfl [.tmp 12] rfl (by decide) rfl ⟨109, 7, (.node (.node (.node (.node (.node (.node (.node (.leaf (.slS ls)) (J 0)) (J 1)) (J 2)) (J 3)) (.node (.node (.node (.node (.leaf (.int .u16 c)) (J 0)) (J 1)) (J 2)) (J 3))) (.node (.node (.node (.node (.node (.leaf (.int .u16 a)) (J 0)) (J 1)) (J 2)) (J 3)) (J 4))) (.node (.node (.node (.node (.node (.node (.leaf (.int .u8 kd)) (J 0)) (J 1)) (J 2)) (J 3)) (.node (.node (.node (.node (.leaf (.int .u16 d)) (J 0)) (J 1)) (J 2)) (J 3))) (.node (.node (.node (.node (.node (.leaf (.int .u16 b)) (J 0)) (J 1)) (J 2)) (J 3)) (J 4)))), (OO 7)⟩ (by kernel_rfl) (by kernel_rfl) ?_
  repeat' (first
    | refine allProp_T ?_
    | exact trivial
    | (refine URun.id ?_; first
        | refine URun.nil ?_
        | refine URun.many tabs2 rfl rfl (by kernel_rfl) ?_ ?_
        | (refine URun.toCall 52 rfl ?_; first
          | refine URun.call tabs2 rfl rfl rfl rfl p52 rfl rfl ?_ rfl ?_)
        | (refine URun.toCall 27 rfl ?_; first
          | refine URun.call tabs2 rfl rfl rfl rfl k27 rfl rfl ?_ rfl ?_)
        | (refine URun.toCall 46 rfl ?_; first
          | refine URun.call tabs2 rfl rfl rfl rfl k46 rfl rfl ?_ rfl ?_)
        | (refine URun.toCall 51 rfl ?_; first
          | refine URun.call tabs2 rfl rfl rfl rfl k51 rfl rfl ?_ rfl ?_)
        | (refine URun.toCall 53 rfl ?_; first
          | refine URun.call tabs2 rfl rfl rfl rfl k53 rfl rfl ?_ rfl ?_)
        | (refine URun.toCall 41 rfl ?_; first
          | refine URun.call tabs2 rfl rfl rfl rfl k41 rfl rfl ?_ rfl ?_
          | refine URun.call tabs2 rfl rfl rfl rfl k41b rfl rfl ?_ rfl ?_)
        | (refine URun.toCall 54 rfl ?_; first
          | refine URun.call tabs2 rfl rfl rfl rfl k54 rfl rfl ?_ rfl ?_)
        | (refine URun.toCall 30 rfl ?_; first
          | refine URun.call tabs2 rfl rfl rfl rfl k30 rfl rfl ?_ rfl ?_)
        | refine URun.same tabs2 rfl rfl rfl ?_
        | refine URun.same2 tabs2 rfl rfl rfl ?_
        | refine URun.yes tabs2 rfl rfl rfl rfl ?_
        | refine URun.no tabs2 rfl rfl rfl rfl ?_
        | refine URun.yes tabs2 rfl rfl (by decide) rfl ?_
        | refine URun.no tabs2 rfl rfl (by decide) rfl ?_
        | refine URun.yes tabs2 rfl rfl hne rfl ?_
        | refine URun.no tabs2 rfl rfl hne rfl ?_
        | refine URun.split tabs2 rfl rfl rfl rfl (fun h => ?_) (fun h => ?_))
    | (refine TRun.id ?_; first
        | refine TRun.nil ?_
        | refine TRun.many rfl rfl (by kernel_rfl) ?_ ?_
        | (refine TRun.toCall 52 rfl ?_; first
          | refine TRun.call rfl rfl rfl rfl p52 rfl rfl ?_ rfl ?_)
        | (refine TRun.toCall 27 rfl ?_; first
          | refine TRun.call rfl rfl rfl rfl k27 rfl rfl ?_ rfl ?_)
        | (refine TRun.toCall 46 rfl ?_; first
          | refine TRun.call rfl rfl rfl rfl k46 rfl rfl ?_ rfl ?_)
        | (refine TRun.toCall 51 rfl ?_; first
          | refine TRun.call rfl rfl rfl rfl k51 rfl rfl ?_ rfl ?_)
        | (refine TRun.toCall 53 rfl ?_; first
          | refine TRun.call rfl rfl rfl rfl k53 rfl rfl ?_ rfl ?_)
        | (refine TRun.toCall 41 rfl ?_; first
          | refine TRun.call rfl rfl rfl rfl k41 rfl rfl ?_ rfl ?_
          | refine TRun.call rfl rfl rfl rfl k41b rfl rfl ?_ rfl ?_)
        | (refine TRun.toCall 54 rfl ?_; first
          | refine TRun.call rfl rfl rfl rfl k54 rfl rfl ?_ rfl ?_)
        | (refine TRun.toCall 30 rfl ?_; first
          | refine TRun.call rfl rfl rfl rfl k30 rfl rfl ?_ rfl ?_)
        | refine TRun.same rfl rfl rfl ?_
        | refine TRun.same2 rfl rfl rfl ?_
        | refine TRun.yes rfl rfl rfl rfl ?_
        | refine TRun.no rfl rfl rfl rfl ?_
        | refine TRun.yes rfl rfl (by decide) rfl ?_
        | refine TRun.no rfl rfl (by decide) rfl ?_
        | refine TRun.yes rfl rfl hne rfl ?_
        | refine TRun.no rfl rfl hne rfl ?_
        | refine TRun.split rfl rfl rfl rfl (fun h => ?_) (fun h => ?_))
    | (refine HoldsT.id ?_; first
        | refine HoldsT.seq ?_
        | refine HoldsT.regionU ?_
        | refine HoldsT.drawn tabs2 ?_
        | refine HoldsT.yes rfl ?_
        | refine HoldsT.no rfl ?_
        | refine HoldsT.cond rfl (fun h => ?_) (fun h => ?_)
        | refine HoldsT.block ?_
        | refine HoldsT.ret ?_
        | refine HoldsT.skip ?_
        | refine HoldsT.exit ?_)
    | (refine okTr_intro ?_; kernel_rfl)
    | exact absurd rfl h
    | exact rowGk rfl rfl rfl
    | refine allProp_C ?_ ?_
    | refine And.intro ?_ ?_
    | omega
    | (show _ < List.length _; omega)
    | exact rowlen_intro rfl
    | exact lenEq_intro rfl
    | exact Nat.le_of_ble_eq_true rfl
    | (simp only [AV.rowlenD, AV.rowlen, AV.ncells, mulSz, toN, Option.map_some, Option.map_none, cutL, List.length_take, List.length_drop, List.length_append, List.length_cons, List.length_nil, List.length_set, Option.some.injEq, Int.reduceToNat] <;> omega))
  all_goals exact FinC.te (y := .bool true) rfl rfl trivial rfl

set_option maxRecDepth 10000 in
set_option maxHeartbeats 8000000 in
theorem p17we (ls t old new now old2 new2 : List (List UInt8)) (kd a b c d fl fc tl tc at' at2 x y : Int) (hkd : 0 ≤ kd ∧ kd ≤ 255) (heq : tl = (ls.length : Int) - 1) (hl : ls.length ≤ 1000000)
    (k27 : Pure Try.prog 27 [.slS ls] (.bool true)) (k46 : Pure Try.prog 46 [.slS ls, .int .u8 (kd.tmod 2), .int .u16 a, .int .u16 b, .int .u16 c, .int .u16 d] (.agg [.int .i64 1, .int .i64 fl, .int .i64 fc, .int .i64 tl, .int .i64 tc])) (k51 : Pure Try.prog 51 [.slS ls, .agg [.int .i64 1, .int .i64 fl, .int .i64 fc, .int .i64 tl, .int .i64 tc]] (.slS t))
    (k53 : Pure Try.prog 53 [.slS ls, .agg [.int .i64 1, .int .i64 fl, .int .i64 fc, .int .i64 tl, .int .i64 tc]] (.tup [.agg [.int .i64 at', .slS old, .slS new], .bool true]))
    (k41 : Pure Try.prog 41 [.slS ls, .slG 3 [.int .i64 at', .slS old, .slS new]] (.tup [.slS now, .bool true]))
    : Pure Try.prog 17 [.slS ls, .int .u8 kd, .int .u16 a, .int .u16 b, .int .u16 c, .int .u16 d] (.bool true) := by
  have hk2 := tmod_in hkd.1 (show (0 : Int) < 2 by omega)
  refine Pure.ofT tab2_ok Try.func17 rfl rfl [.tmp 12] rfl (by decide) rfl ⟨109, 7, (.node (.node (.node (.node (.node (.node (.node (.leaf (.slS ls)) (J 0)) (J 1)) (J 2)) (J 3)) (.node (.node (.node (.node (.leaf (.int .u16 c)) (J 0)) (J 1)) (J 2)) (J 3))) (.node (.node (.node (.node (.node (.leaf (.int .u16 a)) (J 0)) (J 1)) (J 2)) (J 3)) (J 4))) (.node (.node (.node (.node (.node (.node (.leaf (.int .u8 kd)) (J 0)) (J 1)) (J 2)) (J 3)) (.node (.node (.node (.node (.leaf (.int .u16 d)) (J 0)) (J 1)) (J 2)) (J 3))) (.node (.node (.node (.node (.node (.leaf (.int .u16 b)) (J 0)) (J 1)) (J 2)) (J 3)) (J 4)))), (OO 7)⟩ (by kernel_rfl) (by kernel_rfl) ?_
  repeat' (first
    | refine allProp_T ?_
    | exact trivial
    | (refine URun.id ?_; first
        | refine URun.nil ?_
        | refine URun.many tabs2 rfl rfl (by kernel_rfl) ?_ ?_
        | (refine URun.toCall 52 rfl ?_; first
          | refine URun.call tabs2 rfl rfl rfl rfl p52 rfl rfl ?_ rfl ?_)
        | (refine URun.toCall 27 rfl ?_; first
          | refine URun.call tabs2 rfl rfl rfl rfl k27 rfl rfl ?_ rfl ?_)
        | (refine URun.toCall 46 rfl ?_; first
          | refine URun.call tabs2 rfl rfl rfl rfl k46 rfl rfl ?_ rfl ?_)
        | (refine URun.toCall 51 rfl ?_; first
          | refine URun.call tabs2 rfl rfl rfl rfl k51 rfl rfl ?_ rfl ?_)
        | (refine URun.toCall 53 rfl ?_; first
          | refine URun.call tabs2 rfl rfl rfl rfl k53 rfl rfl ?_ rfl ?_)
        | (refine URun.toCall 41 rfl ?_; first
          | refine URun.call tabs2 rfl rfl rfl rfl k41 rfl rfl ?_ rfl ?_)
        | refine URun.same tabs2 rfl rfl rfl ?_
        | refine URun.same2 tabs2 rfl rfl rfl ?_
        | refine URun.yes tabs2 rfl rfl rfl rfl ?_
        | refine URun.no tabs2 rfl rfl rfl rfl ?_
        | refine URun.yes tabs2 rfl rfl (by decide) rfl ?_
        | refine URun.no tabs2 rfl rfl (by decide) rfl ?_
        | refine URun.yes tabs2 rfl rfl heq rfl ?_
        | refine URun.no tabs2 rfl rfl heq rfl ?_
        | refine URun.split tabs2 rfl rfl rfl rfl (fun h => ?_) (fun h => ?_))
    | (refine TRun.id ?_; first
        | refine TRun.nil ?_
        | refine TRun.many rfl rfl (by kernel_rfl) ?_ ?_
        | (refine TRun.toCall 52 rfl ?_; first
          | refine TRun.call rfl rfl rfl rfl p52 rfl rfl ?_ rfl ?_)
        | (refine TRun.toCall 27 rfl ?_; first
          | refine TRun.call rfl rfl rfl rfl k27 rfl rfl ?_ rfl ?_)
        | (refine TRun.toCall 46 rfl ?_; first
          | refine TRun.call rfl rfl rfl rfl k46 rfl rfl ?_ rfl ?_)
        | (refine TRun.toCall 51 rfl ?_; first
          | refine TRun.call rfl rfl rfl rfl k51 rfl rfl ?_ rfl ?_)
        | (refine TRun.toCall 53 rfl ?_; first
          | refine TRun.call rfl rfl rfl rfl k53 rfl rfl ?_ rfl ?_)
        | (refine TRun.toCall 41 rfl ?_; first
          | refine TRun.call rfl rfl rfl rfl k41 rfl rfl ?_ rfl ?_)
        | refine TRun.same rfl rfl rfl ?_
        | refine TRun.same2 rfl rfl rfl ?_
        | refine TRun.yes rfl rfl rfl rfl ?_
        | refine TRun.no rfl rfl rfl rfl ?_
        | refine TRun.yes rfl rfl (by decide) rfl ?_
        | refine TRun.no rfl rfl (by decide) rfl ?_
        | refine TRun.yes rfl rfl heq rfl ?_
        | refine TRun.no rfl rfl heq rfl ?_
        | refine TRun.split rfl rfl rfl rfl (fun h => ?_) (fun h => ?_))
    | (refine HoldsT.id ?_; first
        | refine HoldsT.seq ?_
        | refine HoldsT.regionU ?_
        | refine HoldsT.drawn tabs2 ?_
        | refine HoldsT.yes rfl ?_
        | refine HoldsT.no rfl ?_
        | refine HoldsT.cond rfl (fun h => ?_) (fun h => ?_)
        | refine HoldsT.block ?_
        | refine HoldsT.ret ?_
        | refine HoldsT.skip ?_
        | refine HoldsT.exit ?_)
    | (refine okTr_intro ?_; kernel_rfl)
    | exact absurd rfl h
    | exact rowGk rfl rfl rfl
    | refine allProp_C ?_ ?_
    | refine And.intro ?_ ?_
    | omega
    | (show _ < List.length _; omega)
    | exact rowlen_intro rfl
    | exact lenEq_intro rfl
    | exact Nat.le_of_ble_eq_true rfl
    | (simp only [AV.rowlenD, AV.rowlen, AV.ncells, mulSz, toN, Option.map_some, Option.map_none, cutL, List.length_take, List.length_drop, List.length_append, List.length_cons, List.length_nil, List.length_set, Option.some.injEq, Int.reduceToNat] <;> omega))
  all_goals exact FinC.te (y := .bool true) rfl rfl trivial rfl

end Go.Proofs.Ytefbgdnobnemkaa.AM
