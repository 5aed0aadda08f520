/-
  Lines that are put: the law.
-/
import Derived.Test.YtefbgdnobnemkaaF51
set_option linter.unusedSimpArgs false
set_option linter.unusedVariables false
set_option linter.unusedSectionVars false
namespace Go.Proofs.Ytefbgdnobnemkaa.AM
open Go Go.RowKit

/-- Lines, n times. -/
def repS (t : List (List UInt8)) : Nat → List (List UInt8)
  | 0 => []
  | n + 1 => repS t n ++ t
theorem repS_le {t : List (List UInt8)} (h : t.length ≤ 8) : ∀ n, (repS t n).length ≤ 8 * n
  | 0 => by simp [repS]
  | n + 1 => by have := repS_le h n; rw [repS, List.length_append]; omega
theorem first_in (s : List UInt8) : 0 ≤ firstL s ∧ firstL s ≤ max ((s.length : Int) - 1) 0 := by
  unfold firstL
  split <;> omega

def sh19true (ls mo now w : List (List UInt8)) (at' q m i : Int) : TS := ⟨112, 7, (.node (.node (.node (.node (.node (.node (.node (.leaf (.slS ls)) (J 0)) (J 1)) (.node (.node (.leaf (.ptr 16 0)) (J 0)) (J 1))) (J 3)) (.node (.node (J 2) (.node (.node (.leaf (.int .i64 at')) (J 0)) (J 1))) (J 3))) (.node (.node (.node (J 2) (.node (.node (.leaf (.slS now)) (J 0)) (J 1))) (J 3)) (.node (.node (J 2) (.node (.node (.leaf (.int .i64 i)) (J 0)) (J 1))) (.node (.node (.node (.leaf (.int .i64 m)) (J 0)) (J 1)) (J 2))))) (.node (.node (.node (.node (.node (.node (.leaf (.slS mo)) (J 0)) (J 1)) (J 2)) (J 3)) (.node (.node (J 2) (.node (.node (.leaf (.own 85 w.length)) (J 0)) (J 1))) (J 3))) (J 5))), (.node (.node (.node (.node (.node (OO 2) (.node (.node (.leaf (some ⟨true, false, .agg [.int .i64 at', .int .i64 q], 23⟩)) (OO 0)) (OO 1))) (OO 3)) (OO 4)) (OO 5)) (.node (.node (OO 4) (.node (.node (OO 2) (.node (.node (OO 0) (.leaf (some ⟨true, true, .slS w, 9⟩))) (OO 1))) (OO 3))) (OO 5)))⟩
set_option maxRecDepth 10000 in
set_option maxHeartbeats 8000000 in
theorem p19w_true (ls mo new now : List (List UInt8)) (a c n : Int) (hL : ls.length ≤ 40) (h0 : 0 < ls.length) (hM0 : 0 < mo.length) (hM : mo.length ≤ 8) (hn : 0 ≤ n ∧ n ≤ 255) (hp : 0 ≤ plL ls a ∧ plL ls a < ls.length)
    (hwant : cutL ls none (some (plL ls a).toNat) ++ repS mo (n.tmod 3 + 1).toNat ++ cutL ls (some (plL ls a).toNat) none = now)
    (k27 : Pure Try.prog 27 [.slS ls] (.bool true)) (k27m : Pure Try.prog 27 [.slS mo] (.bool true)) (k28 : Pure Try.prog 28 [.slS ls, .int .u16 a, .int .u16 c] (.agg [.int .i64 (plL ls a), .int .i64 (plC ls a c)]))
    (k54 : Pure Try.prog 54 [.slS ls, .agg [.int .i64 (plL ls a), .int .i64 (plC ls a c)], .agg [.int .i64 1, .slS mo], .bool true, .int .i64 (n.tmod 3 + 1)] (.tup [.agg [.int .i64 (plL ls a), .slS [], .slS new], .agg [.int .i64 (plL ls a), .int .i64 (firstL (mo.getD 0 []))], .bool true]))
    (k41 : Pure Try.prog 41 [.slS ls, .slG 3 [.int .i64 (plL ls a), .slS [], .slS new]] (.tup [.slS now, .bool true]))
    (k50 : Pure Try.prog 50 [.str (mo.getD 0 [])] (.int .i64 (firstL (mo.getD 0 [])))) :
    Pure Try.prog 19 [.slS ls, .slS mo, .int .u16 a, .int .u16 c, .bool true, .int .u8 n] (.bool true) := by
  have hn3 := tmod_in hn.1 (show (0 : Int) < 3 by omega)
  have hnl : now.length ≤ 1000 := by
    have h1 := repS_le hM (n.tmod 3 + 1).toNat
    rw [← hwant]
    simp only [cutL, List.length_append, List.length_take, List.length_drop]; omega
  have k30 : Pure Try.prog 30 [.slS now, .slS now] (.bool true) := by
    have h := p30 now now (by omega)
    rwa [decide_eq_true rfl] at h
  have hat : plL ls a + 1 - 1 = plL ls a := by omega
  refine Pure.ofT tab2_ok Try.func19 rfl rfl [.tmp 12] rfl (by decide) rfl ⟨112, 7, (.node (.node (.node (.node (.node (.node (.node (.leaf (.slS ls)) (J 0)) (J 1)) (J 2)) (J 3)) (.node (.node (.node (.node (.leaf (.bool true)) (J 0)) (J 1)) (J 2)) (J 3))) (.node (.node (.node (.node (.node (.leaf (.int .u16 a)) (J 0)) (J 1)) (J 2)) (J 3)) (J 4))) (.node (.node (.node (.node (.node (.node (.leaf (.slS mo)) (J 0)) (J 1)) (J 2)) (J 3)) (.node (.node (.node (.node (.leaf (.int .u8 n)) (J 0)) (J 1)) (J 2)) (J 3))) (.node (.node (.node (.node (.node (.leaf (.int .u16 c)) (J 0)) (J 1)) (J 2)) (J 3)) (J 4)))), (OO 7)⟩ (by kernel_rfl) (by kernel_rfl) ?_
  repeat' (first
    | refine allProp_T ?_
    | exact trivial
    | (refine URun.id ?_; first
        | refine URun.nil ?_
        | refine URun.many tabs2 rfl rfl (by kernel_rfl) ?_ ?_
        | (refine URun.toCall 52 rfl ?_; first
          | refine URun.call tabs2 rfl rfl rfl rfl p52 rfl rfl ?_ rfl ?_)
        | (refine URun.toCall 27 rfl ?_; first
          | refine URun.call tabs2 rfl rfl rfl rfl k27 rfl rfl ?_ rfl ?_
          | refine URun.call tabs2 rfl rfl rfl rfl k27m rfl rfl ?_ rfl ?_)
        | (refine URun.toCall 28 rfl ?_; first
          | refine URun.call tabs2 rfl rfl rfl rfl k28 rfl rfl ?_ rfl ?_)
        | (refine URun.toCall 54 rfl ?_; first
          | refine URun.call tabs2 rfl rfl rfl rfl k54 rfl rfl ?_ rfl ?_)
        | (refine URun.toCall 41 rfl ?_; first
          | refine URun.call tabs2 rfl rfl rfl rfl k41 rfl rfl ?_ rfl ?_)
        | refine URun.same tabs2 rfl rfl rfl ?_
        | refine URun.same2 tabs2 rfl rfl rfl ?_
        | refine URun.yes tabs2 rfl rfl rfl rfl ?_
        | refine URun.no tabs2 rfl rfl rfl rfl ?_
        | refine URun.yes tabs2 rfl rfl (by omega) rfl ?_
        | refine URun.no tabs2 rfl rfl (by omega) rfl ?_
        | refine URun.split tabs2 rfl rfl rfl rfl (fun h => ?_) (fun h => ?_))
    | (refine TRun.id ?_; first
        | refine TRun.nil ?_
        | refine TRun.many rfl rfl (by kernel_rfl) ?_ ?_
        | (refine TRun.toCall 52 rfl ?_; first
          | refine TRun.call rfl rfl rfl rfl p52 rfl rfl ?_ rfl ?_)
        | (refine TRun.toCall 27 rfl ?_; first
          | refine TRun.call rfl rfl rfl rfl k27 rfl rfl ?_ rfl ?_
          | refine TRun.call rfl rfl rfl rfl k27m rfl rfl ?_ rfl ?_)
        | (refine TRun.toCall 28 rfl ?_; first
          | refine TRun.call rfl rfl rfl rfl k28 rfl rfl ?_ rfl ?_)
        | (refine TRun.toCall 54 rfl ?_; first
          | refine TRun.call rfl rfl rfl rfl k54 rfl rfl ?_ rfl ?_)
        | (refine TRun.toCall 41 rfl ?_; first
          | refine TRun.call rfl rfl rfl rfl k41 rfl rfl ?_ rfl ?_)
        | refine TRun.same rfl rfl rfl ?_
        | refine TRun.same2 rfl rfl rfl ?_
        | refine TRun.yes rfl rfl rfl rfl ?_
        | refine TRun.no rfl rfl rfl rfl ?_
        | refine TRun.yes rfl rfl (by omega) rfl ?_
        | refine TRun.no rfl rfl (by omega) rfl ?_
        | refine TRun.split rfl rfl rfl rfl (fun h => ?_) (fun h => ?_))
    | (refine HoldsT.id ?_; first
        | refine HoldsT.seq ?_
        | refine HoldsT.regionU ?_
        | refine HoldsT.drawn tabs2 ?_
        | refine HoldsT.yes rfl ?_
        | refine HoldsT.no rfl ?_
        | refine HoldsT.cond rfl (fun h => ?_) (fun h => ?_)
        | refine HoldsT.block ?_
        | refine HoldsT.ret ?_
        | refine HoldsT.skip ?_
        | refine HoldsT.exit ?_)
    | (refine okTr_intro ?_; kernel_rfl)
    | exact absurd rfl h
    | exact rowGk rfl rfl rfl
    | refine allProp_C ?_ ?_
    | refine And.intro ?_ ?_
    | omega
    | (show _ < List.length _; omega)
    | exact rowlen_intro rfl
    | exact lenEq_intro rfl
    | exact Nat.le_of_ble_eq_true rfl
    | (simp only [AV.rowlenD, AV.rowlen, AV.ncells, mulSz, toN, Option.map_some, Option.map_none, cutL, List.length_take, List.length_drop, List.length_append, List.length_cons, List.length_nil, List.length_set, Option.some.injEq, Int.reduceToNat] <;> omega))
  rw [hat]
  refine HoldsT.loop (fun x : Int × List (List UInt8) => sh19true ls mo now x.2 (plL ls a) (firstL (mo.getD 0 [])) (n.tmod 3 + 1) x.1) (fun x => (n.tmod 3 + 1 - x.1).toNat) (fun x => 0 ≤ x.1 ∧ x.1 ≤ n.tmod 3 + 1 ∧ x.2 = cutL ls none (some (plL ls a).toNat) ++ repS mo x.1.toNat) (0, cutL ls none (some (plL ls a).toNat)) ?_ ?_ (fun _ => by kernel_rfl) ?_
  · refine WeakT.of ?_ ?_ (by kernel_rfl)
    · repeat' (first | exact TTle.junk _ _ | exact TTle.same _ | refine TTle.node ?_ ?_ | refine TTle.leaf ?_ | exact AVle.junk _ | exact AVle.rfl' rfl | exact AVle.nilS | exact AVle.nilB)
    · repeat' (first | exact OOle.none _ _ | exact OOle.same _ | refine OOle.node ?_ ?_ | exact OOle.leaf _ | exact OOle.gone _)
  · exact ⟨by simp, by simp only; omega, by simp [repS]⟩
  · intro x hx
    obtain ⟨i, w⟩ := x
    obtain ⟨g1, g2, g3⟩ := hx
    simp only at g1 g2 g3
    have hr := repS_le hM i.toNat
    have hwl : w.length ≤ 1000 := by
      rw [g3]; simp only [cutL, List.length_append, List.length_take]; omega
    have k30' : ¬ i < n.tmod 3 + 1 → Pure Try.prog 30 [.slS now, .slS (w ++ cutL ls (some (plL ls a).toNat) none)] (.bool true) := fun h => by
      have : w ++ cutL ls (some (plL ls a).toNat) none = now := by rw [g3, show i = n.tmod 3 + 1 by omega]; exact hwant
      rw [this]; exact k30
    show HoldsT Try.prog _ (sh19true ls mo now w (plL ls a) (firstL (mo.getD 0 [])) (n.tmod 3 + 1) i) _
    repeat' (first
      | refine allProp_T ?_
      | exact trivial
      | (refine URun.id ?_; first
          | refine URun.nil ?_
          | refine URun.many tabs2 rfl rfl (by kernel_rfl) ?_ ?_
          | (refine URun.toCall 30 rfl ?_; first
            | refine URun.call tabs2 rfl rfl rfl rfl (k30' ‹_›) rfl rfl ?_ rfl ?_)
          | (refine URun.toCall 50 rfl ?_; first
            | refine URun.call tabs2 rfl rfl rfl rfl k50 rfl rfl ?_ rfl ?_)
          | refine URun.same tabs2 rfl rfl rfl ?_
          | refine URun.same2 tabs2 rfl rfl rfl ?_
          | refine URun.yes tabs2 rfl rfl (by omega) rfl ?_
          | refine URun.no tabs2 rfl rfl (by omega) rfl ?_
          | refine URun.split tabs2 rfl rfl rfl rfl (fun h => ?_) (fun h => ?_))
      | (refine TRun.id ?_; first
          | refine TRun.nil ?_
          | refine TRun.many rfl rfl (by kernel_rfl) ?_ ?_
          | (refine TRun.toCall 30 rfl ?_; first
            | refine TRun.call rfl rfl rfl rfl (k30' ‹_›) rfl rfl ?_ rfl ?_)
          | (refine TRun.toCall 50 rfl ?_; first
            | refine TRun.call rfl rfl rfl rfl k50 rfl rfl ?_ rfl ?_)
          | refine TRun.same rfl rfl rfl ?_
          | refine TRun.same2 rfl rfl rfl ?_
          | refine TRun.yes rfl rfl (by omega) rfl ?_
          | refine TRun.no rfl rfl (by omega) rfl ?_
          | refine TRun.split rfl rfl rfl rfl (fun h => ?_) (fun h => ?_))
      | (refine HoldsT.id ?_; first
          | refine HoldsT.seq ?_
          | refine HoldsT.regionU ?_
          | refine HoldsT.drawn tabs2 ?_
          | refine HoldsT.yes rfl ?_
          | refine HoldsT.no rfl ?_
          | refine HoldsT.cond rfl (fun h => ?_) (fun h => ?_)
          | refine HoldsT.block ?_
          | refine HoldsT.ret ?_
          | refine HoldsT.skip ?_
          | refine HoldsT.exit ?_)
      | (refine okTr_intro ?_; kernel_rfl)
      | exact absurd rfl h
      | refine allProp_C ?_ ?_
      | refine And.intro ?_ ?_
      | omega
      | (show _ < List.length _; omega)
      | exact rowlen_intro rfl
      | exact lenEq_intro rfl
      | exact Nat.le_of_ble_eq_true rfl
      | (simp only [AV.rowlenD, AV.rowlen, AV.ncells, mulSz, toN, Option.map_some, Option.map_none, cutL, List.length_take, List.length_drop, List.length_append, List.length_cons, List.length_nil, List.length_set, Option.some.injEq, Int.reduceToNat] <;> omega))
    · have hs : w ++ mo = cutL ls none (some (plL ls a).toNat) ++ repS mo (i.toNat + 1) := by rw [g3, repS, List.append_assoc]
      refine ⟨(i + 1, w ++ mo), ⟨by simp only; omega, by simp only; omega, by simp only; omega, by simp only; rw [toNat_succ g1]; exact hs⟩, ?_⟩
      refine WeakT.of ?_ ?_ (by kernel_rfl)
      · repeat' (first | exact TTle.junk _ _ | exact TTle.same _ | refine TTle.node ?_ ?_ | refine TTle.leaf ?_ | exact AVle.junk _ | exact AVle.rfl' rfl | exact AVle.nilS | exact AVle.nilB | exact AVle.rfl' (congrArg (AV.own 85) List.length_append.symm))
      · repeat' (first | exact OOle.none _ _ | exact OOle.same _ | refine OOle.node ?_ ?_ | exact OOle.leaf _ | exact OOle.gone _)
    all_goals exact FinC.te (y := .bool true) rfl rfl trivial rfl

set_option maxRecDepth 10000 in
set_option maxHeartbeats 8000000 in
theorem p19_true1 (ls mo : List (List UInt8)) (a c n : Int) (hL : ls.length ≤ 140737488355328) (hB : ∀ n : Nat, (ls.getD n []).length ≤ 140737488355328) (hM : mo.length ≤ 140737488355328) (hMB : ∀ n : Nat, (mo.getD n []).length ≤ 140737488355328) (ha : inK .u16 a) (hc : inK .u16 c) (hn : inK .u8 n) (hm : n.tmod 3 + 1 = 1)
    (hg : (decide (0 < (ls.length : Int)) && lightL ls) = true ∧ (decide (0 < (mo.length : Int)) && lightL mo) = true ∧ mo.length ≤ 8) : Pure Try.prog 19 [.slS ls, .slS mo, .int .u16 a, .int .u16 c, .bool true, .int .u8 n] (.bool true) := by
  obtain ⟨hg1, hg2, hg3⟩ := hg
  have k27 := p27 ls hL hB
  have k27m := p27 mo hM hMB
  rw [hg1] at k27
  rw [hg2] at k27m
  obtain ⟨h0, hl, hr⟩ := light_len hg1
  obtain ⟨m0, ml, mr⟩ := light_len hg2
  have ha0 : 0 ≤ a ∧ a ≤ 65535 := ha
  have hc0 : 0 ≤ c ∧ c ≤ 65535 := hc
  have hn0 : 0 ≤ n ∧ n ≤ 255 := hn
  have hms : sumL mo ≤ 1200 ∧ mo.all noLF = true := by
    simp only [lightL, Bool.and_eq_true, decide_eq_true_eq] at hg2
    exact ⟨hg2.2.1.2, hg2.2.2⟩
  have hpl := place_ok (a := a) (b := c) h0 ha0.1 hc0.1
  obtain ⟨q1, q2, q3, q4⟩ := of_decide_eq_true hpl
  have k28 := p28 ls a c h0 ha0 hc0 (fun n => by have := hr n; omega)
  have hmay : mayL mo 1 = true := may_iff.2 ⟨⟨by omega, by omega, by omega, by unfold sizeL; omega⟩, hms.2⟩
  have k79 := p79l_true1 ls mo (plL ls a) (plC ls a c) (by omega) (fun n => by have := hr n; omega) hpl (by omega) (by omega) (fun n => by have := mr n; omega)
  obtain ⟨new, hnew⟩ : ∃ x, x = mo := ⟨_, rfl⟩
  obtain ⟨at', hat⟩ : ∃ x, x = plL ls a := ⟨_, rfl⟩
  have e0 : new.getD 0 [] = mo.getD 0 [] := by
    rw [hnew]
  have hnl : new.length = 1 * mo.length := by rw [hnew]; omega
  have hnB : ∀ n : Nat, (new.getD n []).length ≤ 1200 := by rw [hnew]; exact mr
  have k79 : Pure Try.prog 79 [.slS ls, .agg [.int .i64 (plL ls a), .int .i64 (plC ls a c)], .agg [.int .i64 1, .slS mo], .bool true, .int .i64 1] (TyR.av ⟨true, at', [], new, at', firstL (mo.getD 0 [])⟩) := by
    rw [← e0, hnew, hat]; exact k79
  have hok : appOk ls at' [] new = true := decide_eq_true ⟨by omega, by omega, by simp; omega, by simp [midL, cutL], by simp; omega⟩
  have hap : appL ls at' [] new = ls.take at'.toNat ++ new ++ ls.drop at'.toNat := by rw [appL, if_pos hok]; simp [cutL]
  obtain ⟨now, hnow⟩ : ∃ x, x = appL ls at' [] new := ⟨_, rfl⟩
  have hl1 : (ls.take at'.toNat).length = at'.toNat := by rw [List.length_take]; omega
  have hnl2 : now.length = ls.length + new.length := by
    rw [hnow, hap]; simp only [List.length_append, List.length_take, List.length_drop]; omega
  have hnowB := (appL_small (ls := ls) (old := []) (new := new) (a := at') (b := 1200) hr hnB).2
  rw [← hnow] at hnowB
  have hgd : now.getD at'.toNat [] = mo.getD 0 [] := by
    rw [← e0, hnow, hap, List.append_assoc, List.getD_eq_getElem?_getD, List.getElem?_append_right (by omega), hl1, List.getElem?_append_left (by omega), Nat.sub_self, List.getD_eq_getElem?_getD]
  have k54 := p54w ls mo (plL ls a) (plC ls a c) 1 1 true (by omega) (by omega) (by omega) hpl hmay at' at' (firstL (mo.getD 0 [])) [] new (by simp) (by omega) (by rw [← hnow]; omega) (fun n => by rw [← hnow]; have := hnowB n; omega) (by rw [← hnow]; omega) hok k79
  rw [← hnow] at k54
  have r1 : clL now at' = at' := by unfold clL; omega
  have r2 : clC now at' (firstL (mo.getD 0 [])) false = firstL (mo.getD 0 []) := by
    have hf := first_in (mo.getD 0 [])
    unfold clC
    rw [r1, hgd]
    show min (max (firstL (mo.getD 0 [])) 0) (max (((mo.getD 0 []).length : Int) - 1) 0) = _
    omega
  rw [r1, r2] at k54
  have k41 := p41 ls [] new at' (by omega) (by simp) (by omega)
  rw [hok, ← hnow] at k41
  have hwant : cutL ls none (some at'.toNat) ++ repS mo (n.tmod 3 + 1).toNat ++ cutL ls (some at'.toNat) none = now := by
    rw [hnow, hap, hm, hnew]; simp [repS, cutL]
  have k50 := p50 (mo.getD 0 []) (by have := mr 0; omega)
  have k54 : Pure Try.prog 54 [.slS ls, .agg [.int .i64 (plL ls a), .int .i64 (plC ls a c)], .agg [.int .i64 1, .slS mo], .bool true, .int .i64 (n.tmod 3 + 1)] (.tup [.agg [.int .i64 at', .slS [], .slS new], .agg [.int .i64 at', .int .i64 (firstL (mo.getD 0 []))], .bool true]) := by
    rw [hm]; exact k54
  subst hat
  exact p19w_true ls mo new now a c n (by omega) (by omega) (by omega) hg3 hn0 ⟨q1, q2⟩ hwant k27 k27m k28 k54 k41 k50

set_option maxRecDepth 10000 in
set_option maxHeartbeats 8000000 in
theorem p19_true2 (ls mo : List (List UInt8)) (a c n : Int) (hL : ls.length ≤ 140737488355328) (hB : ∀ n : Nat, (ls.getD n []).length ≤ 140737488355328) (hM : mo.length ≤ 140737488355328) (hMB : ∀ n : Nat, (mo.getD n []).length ≤ 140737488355328) (ha : inK .u16 a) (hc : inK .u16 c) (hn : inK .u8 n) (hm : n.tmod 3 + 1 = 2)
    (hg : (decide (0 < (ls.length : Int)) && lightL ls) = true ∧ (decide (0 < (mo.length : Int)) && lightL mo) = true ∧ mo.length ≤ 8) : Pure Try.prog 19 [.slS ls, .slS mo, .int .u16 a, .int .u16 c, .bool true, .int .u8 n] (.bool true) := by
  obtain ⟨hg1, hg2, hg3⟩ := hg
  have k27 := p27 ls hL hB
  have k27m := p27 mo hM hMB
  rw [hg1] at k27
  rw [hg2] at k27m
  obtain ⟨h0, hl, hr⟩ := light_len hg1
  obtain ⟨m0, ml, mr⟩ := light_len hg2
  have ha0 : 0 ≤ a ∧ a ≤ 65535 := ha
  have hc0 : 0 ≤ c ∧ c ≤ 65535 := hc
  have hn0 : 0 ≤ n ∧ n ≤ 255 := hn
  have hms : sumL mo ≤ 1200 ∧ mo.all noLF = true := by
    simp only [lightL, Bool.and_eq_true, decide_eq_true_eq] at hg2
    exact ⟨hg2.2.1.2, hg2.2.2⟩
  have hpl := place_ok (a := a) (b := c) h0 ha0.1 hc0.1
  obtain ⟨q1, q2, q3, q4⟩ := of_decide_eq_true hpl
  have k28 := p28 ls a c h0 ha0 hc0 (fun n => by have := hr n; omega)
  have hmay : mayL mo 2 = true := may_iff.2 ⟨⟨by omega, by omega, by omega, by unfold sizeL; omega⟩, hms.2⟩
  have k79 := p79l_true2 ls mo (plL ls a) (plC ls a c) (by omega) (fun n => by have := hr n; omega) hpl (by omega) (by omega) (fun n => by have := mr n; omega)
  obtain ⟨new, hnew⟩ : ∃ x, x = mo ++ mo := ⟨_, rfl⟩
  obtain ⟨at', hat⟩ : ∃ x, x = plL ls a := ⟨_, rfl⟩
  have e0 : new.getD 0 [] = mo.getD 0 [] := by
    rw [hnew]; simp only [List.getD_eq_getElem?_getD, List.append_assoc]; rw [List.getElem?_append_left (by omega)]
  have hnl : new.length = 2 * mo.length := by rw [hnew]; simp only [List.length_append]; omega
  have hnB : ∀ n : Nat, (new.getD n []).length ≤ 1200 := by rw [hnew]; exact getD_append_le mr mr
  have k79 : Pure Try.prog 79 [.slS ls, .agg [.int .i64 (plL ls a), .int .i64 (plC ls a c)], .agg [.int .i64 1, .slS mo], .bool true, .int .i64 2] (TyR.av ⟨true, at', [], new, at', firstL (mo.getD 0 [])⟩) := by
    rw [← e0, hnew, hat]; exact k79
  have hok : appOk ls at' [] new = true := decide_eq_true ⟨by omega, by omega, by simp; omega, by simp [midL, cutL], by simp; omega⟩
  have hap : appL ls at' [] new = ls.take at'.toNat ++ new ++ ls.drop at'.toNat := by rw [appL, if_pos hok]; simp [cutL]
  obtain ⟨now, hnow⟩ : ∃ x, x = appL ls at' [] new := ⟨_, rfl⟩
  have hl1 : (ls.take at'.toNat).length = at'.toNat := by rw [List.length_take]; omega
  have hnl2 : now.length = ls.length + new.length := by
    rw [hnow, hap]; simp only [List.length_append, List.length_take, List.length_drop]; omega
  have hnowB := (appL_small (ls := ls) (old := []) (new := new) (a := at') (b := 1200) hr hnB).2
  rw [← hnow] at hnowB
  have hgd : now.getD at'.toNat [] = mo.getD 0 [] := by
    rw [← e0, hnow, hap, List.append_assoc, List.getD_eq_getElem?_getD, List.getElem?_append_right (by omega), hl1, List.getElem?_append_left (by omega), Nat.sub_self, List.getD_eq_getElem?_getD]
  have k54 := p54w ls mo (plL ls a) (plC ls a c) 1 2 true (by omega) (by omega) (by omega) hpl hmay at' at' (firstL (mo.getD 0 [])) [] new (by simp) (by omega) (by rw [← hnow]; omega) (fun n => by rw [← hnow]; have := hnowB n; omega) (by rw [← hnow]; omega) hok k79
  rw [← hnow] at k54
  have r1 : clL now at' = at' := by unfold clL; omega
  have r2 : clC now at' (firstL (mo.getD 0 [])) false = firstL (mo.getD 0 []) := by
    have hf := first_in (mo.getD 0 [])
    unfold clC
    rw [r1, hgd]
    show min (max (firstL (mo.getD 0 [])) 0) (max (((mo.getD 0 []).length : Int) - 1) 0) = _
    omega
  rw [r1, r2] at k54
  have k41 := p41 ls [] new at' (by omega) (by simp) (by omega)
  rw [hok, ← hnow] at k41
  have hwant : cutL ls none (some at'.toNat) ++ repS mo (n.tmod 3 + 1).toNat ++ cutL ls (some at'.toNat) none = now := by
    rw [hnow, hap, hm, hnew]; simp [repS, cutL]
  have k50 := p50 (mo.getD 0 []) (by have := mr 0; omega)
  have k54 : Pure Try.prog 54 [.slS ls, .agg [.int .i64 (plL ls a), .int .i64 (plC ls a c)], .agg [.int .i64 1, .slS mo], .bool true, .int .i64 (n.tmod 3 + 1)] (.tup [.agg [.int .i64 at', .slS [], .slS new], .agg [.int .i64 at', .int .i64 (firstL (mo.getD 0 []))], .bool true]) := by
    rw [hm]; exact k54
  subst hat
  exact p19w_true ls mo new now a c n (by omega) (by omega) (by omega) hg3 hn0 ⟨q1, q2⟩ hwant k27 k27m k28 k54 k41 k50

set_option maxRecDepth 10000 in
set_option maxHeartbeats 8000000 in
theorem p19_true3 (ls mo : List (List UInt8)) (a c n : Int) (hL : ls.length ≤ 140737488355328) (hB : ∀ n : Nat, (ls.getD n []).length ≤ 140737488355328) (hM : mo.length ≤ 140737488355328) (hMB : ∀ n : Nat, (mo.getD n []).length ≤ 140737488355328) (ha : inK .u16 a) (hc : inK .u16 c) (hn : inK .u8 n) (hm : n.tmod 3 + 1 = 3)
    (hg : (decide (0 < (ls.length : Int)) && lightL ls) = true ∧ (decide (0 < (mo.length : Int)) && lightL mo) = true ∧ mo.length ≤ 8) : Pure Try.prog 19 [.slS ls, .slS mo, .int .u16 a, .int .u16 c, .bool true, .int .u8 n] (.bool true) := by
  obtain ⟨hg1, hg2, hg3⟩ := hg
  have k27 := p27 ls hL hB
  have k27m := p27 mo hM hMB
  rw [hg1] at k27
  rw [hg2] at k27m
  obtain ⟨h0, hl, hr⟩ := light_len hg1
  obtain ⟨m0, ml, mr⟩ := light_len hg2
  have ha0 : 0 ≤ a ∧ a ≤ 65535 := ha
  have hc0 : 0 ≤ c ∧ c ≤ 65535 := hc
  have hn0 : 0 ≤ n ∧ n ≤ 255 := hn
  have hms : sumL mo ≤ 1200 ∧ mo.all noLF = true := by
    simp only [lightL, Bool.and_eq_true, decide_eq_true_eq] at hg2
    exact ⟨hg2.2.1.2, hg2.2.2⟩
  have hpl := place_ok (a := a) (b := c) h0 ha0.1 hc0.1
  obtain ⟨q1, q2, q3, q4⟩ := of_decide_eq_true hpl
  have k28 := p28 ls a c h0 ha0 hc0 (fun n => by have := hr n; omega)
  have hmay : mayL mo 3 = true := may_iff.2 ⟨⟨by omega, by omega, by omega, by unfold sizeL; omega⟩, hms.2⟩
  have k79 := p79l_true3 ls mo (plL ls a) (plC ls a c) (by omega) (fun n => by have := hr n; omega) hpl (by omega) (by omega) (fun n => by have := mr n; omega)
  obtain ⟨new, hnew⟩ : ∃ x, x = mo ++ mo ++ mo := ⟨_, rfl⟩
  obtain ⟨at', hat⟩ : ∃ x, x = plL ls a := ⟨_, rfl⟩
  have e0 : new.getD 0 [] = mo.getD 0 [] := by
    rw [hnew]; simp only [List.getD_eq_getElem?_getD, List.append_assoc]; rw [List.getElem?_append_left (by omega)]
  have hnl : new.length = 3 * mo.length := by rw [hnew]; simp only [List.length_append]; omega
  have hnB : ∀ n : Nat, (new.getD n []).length ≤ 1200 := by rw [hnew]; exact getD_append_le (getD_append_le mr mr) mr
  have k79 : Pure Try.prog 79 [.slS ls, .agg [.int .i64 (plL ls a), .int .i64 (plC ls a c)], .agg [.int .i64 1, .slS mo], .bool true, .int .i64 3] (TyR.av ⟨true, at', [], new, at', firstL (mo.getD 0 [])⟩) := by
    rw [← e0, hnew, hat]; exact k79
  have hok : appOk ls at' [] new = true := decide_eq_true ⟨by omega, by omega, by simp; omega, by simp [midL, cutL], by simp; omega⟩
  have hap : appL ls at' [] new = ls.take at'.toNat ++ new ++ ls.drop at'.toNat := by rw [appL, if_pos hok]; simp [cutL]
  obtain ⟨now, hnow⟩ : ∃ x, x = appL ls at' [] new := ⟨_, rfl⟩
  have hl1 : (ls.take at'.toNat).length = at'.toNat := by rw [List.length_take]; omega
  have hnl2 : now.length = ls.length + new.length := by
    rw [hnow, hap]; simp only [List.length_append, List.length_take, List.length_drop]; omega
  have hnowB := (appL_small (ls := ls) (old := []) (new := new) (a := at') (b := 1200) hr hnB).2
  rw [← hnow] at hnowB
  have hgd : now.getD at'.toNat [] = mo.getD 0 [] := by
    rw [← e0, hnow, hap, List.append_assoc, List.getD_eq_getElem?_getD, List.getElem?_append_right (by omega), hl1, List.getElem?_append_left (by omega), Nat.sub_self, List.getD_eq_getElem?_getD]
  have k54 := p54w ls mo (plL ls a) (plC ls a c) 1 3 true (by omega) (by omega) (by omega) hpl hmay at' at' (firstL (mo.getD 0 [])) [] new (by simp) (by omega) (by rw [← hnow]; omega) (fun n => by rw [← hnow]; have := hnowB n; omega) (by rw [← hnow]; omega) hok k79
  rw [← hnow] at k54
  have r1 : clL now at' = at' := by unfold clL; omega
  have r2 : clC now at' (firstL (mo.getD 0 [])) false = firstL (mo.getD 0 []) := by
    have hf := first_in (mo.getD 0 [])
    unfold clC
    rw [r1, hgd]
    show min (max (firstL (mo.getD 0 [])) 0) (max (((mo.getD 0 []).length : Int) - 1) 0) = _
    omega
  rw [r1, r2] at k54
  have k41 := p41 ls [] new at' (by omega) (by simp) (by omega)
  rw [hok, ← hnow] at k41
  have hwant : cutL ls none (some at'.toNat) ++ repS mo (n.tmod 3 + 1).toNat ++ cutL ls (some at'.toNat) none = now := by
    rw [hnow, hap, hm, hnew]; simp [repS, cutL]
  have k50 := p50 (mo.getD 0 []) (by have := mr 0; omega)
  have k54 : Pure Try.prog 54 [.slS ls, .agg [.int .i64 (plL ls a), .int .i64 (plC ls a c)], .agg [.int .i64 1, .slS mo], .bool true, .int .i64 (n.tmod 3 + 1)] (.tup [.agg [.int .i64 at', .slS [], .slS new], .agg [.int .i64 at', .int .i64 (firstL (mo.getD 0 []))], .bool true]) := by
    rw [hm]; exact k54
  subst hat
  exact p19w_true ls mo new now a c n (by omega) (by omega) (by omega) hg3 hn0 ⟨q1, q2⟩ hwant k27 k27m k28 k54 k41 k50

def sh19false (ls mo now w : List (List UInt8)) (at' q m i : Int) : TS := ⟨112, 7, (.node (.node (.node (.node (.node (.node (.node (.leaf (.slS ls)) (J 0)) (J 1)) (.node (.node (.leaf (.ptr 16 0)) (J 0)) (J 1))) (J 3)) (.node (.node (J 2) (.node (.node (.leaf (.int .i64 at')) (J 0)) (J 1))) (J 3))) (.node (.node (.node (J 2) (.node (.node (.leaf (.slS now)) (J 0)) (J 1))) (J 3)) (.node (.node (J 2) (.node (.node (.leaf (.int .i64 i)) (J 0)) (J 1))) (.node (.node (.node (.leaf (.int .i64 m)) (J 0)) (J 1)) (J 2))))) (.node (.node (.node (.node (.node (.node (.leaf (.slS mo)) (J 0)) (J 1)) (J 2)) (J 3)) (.node (.node (J 2) (.node (.node (.leaf (.own 85 w.length)) (J 0)) (J 1))) (J 3))) (J 5))), (.node (.node (.node (.node (.node (OO 2) (.node (.node (.leaf (some ⟨true, false, .agg [.int .i64 at', .int .i64 q], 23⟩)) (OO 0)) (OO 1))) (OO 3)) (OO 4)) (OO 5)) (.node (.node (OO 4) (.node (.node (OO 2) (.node (.node (OO 0) (.leaf (some ⟨true, true, .slS w, 9⟩))) (OO 1))) (OO 3))) (OO 5)))⟩
set_option maxRecDepth 10000 in
set_option maxHeartbeats 8000000 in
theorem p19w_false (ls mo new now : List (List UInt8)) (a c n : Int) (hL : ls.length ≤ 40) (h0 : 0 < ls.length) (hM0 : 0 < mo.length) (hM : mo.length ≤ 8) (hn : 0 ≤ n ∧ n ≤ 255) (hp : 0 ≤ plL ls a ∧ plL ls a < ls.length)
    (hwant : cutL ls none (some (plL ls a + 1).toNat) ++ repS mo (n.tmod 3 + 1).toNat ++ cutL ls (some (plL ls a + 1).toNat) none = now)
    (k27 : Pure Try.prog 27 [.slS ls] (.bool true)) (k27m : Pure Try.prog 27 [.slS mo] (.bool true)) (k28 : Pure Try.prog 28 [.slS ls, .int .u16 a, .int .u16 c] (.agg [.int .i64 (plL ls a), .int .i64 (plC ls a c)]))
    (k54 : Pure Try.prog 54 [.slS ls, .agg [.int .i64 (plL ls a), .int .i64 (plC ls a c)], .agg [.int .i64 1, .slS mo], .bool false, .int .i64 (n.tmod 3 + 1)] (.tup [.agg [.int .i64 (plL ls a + 1), .slS [], .slS new], .agg [.int .i64 (plL ls a + 1), .int .i64 (firstL (mo.getD 0 []))], .bool true]))
    (k41 : Pure Try.prog 41 [.slS ls, .slG 3 [.int .i64 (plL ls a + 1), .slS [], .slS new]] (.tup [.slS now, .bool true]))
    (k50 : Pure Try.prog 50 [.str (mo.getD 0 [])] (.int .i64 (firstL (mo.getD 0 [])))) :
    Pure Try.prog 19 [.slS ls, .slS mo, .int .u16 a, .int .u16 c, .bool false, .int .u8 n] (.bool true) := by
  have hn3 := tmod_in hn.1 (show (0 : Int) < 3 by omega)
  have hnl : now.length ≤ 1000 := by
    have h1 := repS_le hM (n.tmod 3 + 1).toNat
    rw [← hwant]
    simp only [cutL, List.length_append, List.length_take, List.length_drop]; omega
  have k30 : Pure Try.prog 30 [.slS now, .slS now] (.bool true) := by
    have h := p30 now now (by omega)
    rwa [decide_eq_true rfl] at h
  have hat : plL ls a + 1 = plL ls a + 1 := rfl
  refine Pure.ofT tab2_ok Try.func19 rfl rfl [.tmp 12] rfl (by decide) rfl ⟨112, 7, (.node (.node (.node (.node (.node (.node (.node (.leaf (.slS ls)) (J 0)) (J 1)) (J 2)) (J 3)) (.node (.node (.node (.node (.leaf (.bool false)) (J 0)) (J 1)) (J 2)) (J 3))) (.node (.node (.node (.node (.node (.leaf (.int .u16 a)) (J 0)) (J 1)) (J 2)) (J 3)) (J 4))) (.node (.node (.node (.node (.node (.node (.leaf (.slS mo)) (J 0)) (J 1)) (J 2)) (J 3)) (.node (.node (.node (.node (.leaf (.int .u8 n)) (J 0)) (J 1)) (J 2)) (J 3))) (.node (.node (.node (.node (.node (.leaf (.int .u16 c)) (J 0)) (J 1)) (J 2)) (J 3)) (J 4)))), (OO 7)⟩ (by kernel_rfl) (by kernel_rfl) ?_
  repeat' (first
    | refine allProp_T ?_
    | exact trivial
    | (refine URun.id ?_; first
        | refine URun.nil ?_
        | refine URun.many tabs2 rfl rfl (by kernel_rfl) ?_ ?_
        | (refine URun.toCall 52 rfl ?_; first
          | refine URun.call tabs2 rfl rfl rfl rfl p52 rfl rfl ?_ rfl ?_)
        | (refine URun.toCall 27 rfl ?_; first
          | refine URun.call tabs2 rfl rfl rfl rfl k27 rfl rfl ?_ rfl ?_
          | refine URun.call tabs2 rfl rfl rfl rfl k27m rfl rfl ?_ rfl ?_)
        | (refine URun.toCall 28 rfl ?_; first
          | refine URun.call tabs2 rfl rfl rfl rfl k28 rfl rfl ?_ rfl ?_)
        | (refine URun.toCall 54 rfl ?_; first
          | refine URun.call tabs2 rfl rfl rfl rfl k54 rfl rfl ?_ rfl ?_)
        | (refine URun.toCall 41 rfl ?_; first
          | refine URun.call tabs2 rfl rfl rfl rfl k41 rfl rfl ?_ rfl ?_)
        | refine URun.same tabs2 rfl rfl rfl ?_
        | refine URun.same2 tabs2 rfl rfl rfl ?_
        | refine URun.yes tabs2 rfl rfl rfl rfl ?_
        | refine URun.no tabs2 rfl rfl rfl rfl ?_
        | refine URun.yes tabs2 rfl rfl (by omega) rfl ?_
        | refine URun.no tabs2 rfl rfl (by omega) rfl ?_
        | refine URun.split tabs2 rfl rfl rfl rfl (fun h => ?_) (fun h => ?_))
    | (refine TRun.id ?_; first
        | refine TRun.nil ?_
        | refine TRun.many rfl rfl (by kernel_rfl) ?_ ?_
        | (refine TRun.toCall 52 rfl ?_; first
          | refine TRun.call rfl rfl rfl rfl p52 rfl rfl ?_ rfl ?_)
        | (refine TRun.toCall 27 rfl ?_; first
          | refine TRun.call rfl rfl rfl rfl k27 rfl rfl ?_ rfl ?_
          | refine TRun.call rfl rfl rfl rfl k27m rfl rfl ?_ rfl ?_)
        | (refine TRun.toCall 28 rfl ?_; first
          | refine TRun.call rfl rfl rfl rfl k28 rfl rfl ?_ rfl ?_)
        | (refine TRun.toCall 54 rfl ?_; first
          | refine TRun.call rfl rfl rfl rfl k54 rfl rfl ?_ rfl ?_)
        | (refine TRun.toCall 41 rfl ?_; first
          | refine TRun.call rfl rfl rfl rfl k41 rfl rfl ?_ rfl ?_)
        | refine TRun.same rfl rfl rfl ?_
        | refine TRun.same2 rfl rfl rfl ?_
        | refine TRun.yes rfl rfl rfl rfl ?_
        | refine TRun.no rfl rfl rfl rfl ?_
        | refine TRun.yes rfl rfl (by omega) rfl ?_
        | refine TRun.no rfl rfl (by omega) rfl ?_
        | refine TRun.split rfl rfl rfl rfl (fun h => ?_) (fun h => ?_))
    | (refine HoldsT.id ?_; first
        | refine HoldsT.seq ?_
        | refine HoldsT.regionU ?_
        | refine HoldsT.drawn tabs2 ?_
        | refine HoldsT.yes rfl ?_
        | refine HoldsT.no rfl ?_
        | refine HoldsT.cond rfl (fun h => ?_) (fun h => ?_)
        | refine HoldsT.block ?_
        | refine HoldsT.ret ?_
        | refine HoldsT.skip ?_
        | refine HoldsT.exit ?_)
    | (refine okTr_intro ?_; kernel_rfl)
    | exact absurd rfl h
    | exact rowGk rfl rfl rfl
    | refine allProp_C ?_ ?_
    | refine And.intro ?_ ?_
    | omega
    | (show _ < List.length _; omega)
    | exact rowlen_intro rfl
    | exact lenEq_intro rfl
    | exact Nat.le_of_ble_eq_true rfl
    | (simp only [AV.rowlenD, AV.rowlen, AV.ncells, mulSz, toN, Option.map_some, Option.map_none, cutL, List.length_take, List.length_drop, List.length_append, List.length_cons, List.length_nil, List.length_set, Option.some.injEq, Int.reduceToNat] <;> omega))
  rw [hat]
  refine HoldsT.loop (fun x : Int × List (List UInt8) => sh19false ls mo now x.2 (plL ls a + 1) (firstL (mo.getD 0 [])) (n.tmod 3 + 1) x.1) (fun x => (n.tmod 3 + 1 - x.1).toNat) (fun x => 0 ≤ x.1 ∧ x.1 ≤ n.tmod 3 + 1 ∧ x.2 = cutL ls none (some (plL ls a + 1).toNat) ++ repS mo x.1.toNat) (0, cutL ls none (some (plL ls a + 1).toNat)) ?_ ?_ (fun _ => by kernel_rfl) ?_
  · refine WeakT.of ?_ ?_ (by kernel_rfl)
    · repeat' (first | exact TTle.junk _ _ | exact TTle.same _ | refine TTle.node ?_ ?_ | refine TTle.leaf ?_ | exact AVle.junk _ | exact AVle.rfl' rfl | exact AVle.nilS | exact AVle.nilB)
    · repeat' (first | exact OOle.none _ _ | exact OOle.same _ | refine OOle.node ?_ ?_ | exact OOle.leaf _ | exact OOle.gone _)
  · exact ⟨by simp, by simp only; omega, by simp [repS]⟩
  · intro x hx
    obtain ⟨i, w⟩ := x
    obtain ⟨g1, g2, g3⟩ := hx
    simp only at g1 g2 g3
    have hr := repS_le hM i.toNat
    have hwl : w.length ≤ 1000 := by
      rw [g3]; simp only [cutL, List.length_append, List.length_take]; omega
    have k30' : ¬ i < n.tmod 3 + 1 → Pure Try.prog 30 [.slS now, .slS (w ++ cutL ls (some (plL ls a + 1).toNat) none)] (.bool true) := fun h => by
      have : w ++ cutL ls (some (plL ls a + 1).toNat) none = now := by rw [g3, show i = n.tmod 3 + 1 by omega]; exact hwant
      rw [this]; exact k30
    show HoldsT Try.prog _ (sh19false ls mo now w (plL ls a + 1) (firstL (mo.getD 0 [])) (n.tmod 3 + 1) i) _
    repeat' (first
      | refine allProp_T ?_
      | exact trivial
      | (refine URun.id ?_; first
          | refine URun.nil ?_
          | refine URun.many tabs2 rfl rfl (by kernel_rfl) ?_ ?_
          | (refine URun.toCall 30 rfl ?_; first
            | refine URun.call tabs2 rfl rfl rfl rfl (k30' ‹_›) rfl rfl ?_ rfl ?_)
          | (refine URun.toCall 50 rfl ?_; first
            | refine URun.call tabs2 rfl rfl rfl rfl k50 rfl rfl ?_ rfl ?_)
          | refine URun.same tabs2 rfl rfl rfl ?_
          | refine URun.same2 tabs2 rfl rfl rfl ?_
          | refine URun.yes tabs2 rfl rfl (by omega) rfl ?_
          | refine URun.no tabs2 rfl rfl (by omega) rfl ?_
          | refine URun.split tabs2 rfl rfl rfl rfl (fun h => ?_) (fun h => ?_))
      | (refine TRun.id ?_; first
          | refine TRun.nil ?_
          | refine TRun.many rfl rfl (by kernel_rfl) ?_ ?_
          | (refine TRun.toCall 30 rfl ?_; first
            | refine TRun.call rfl rfl rfl rfl (k30' ‹_›) rfl rfl ?_ rfl ?_)
          | (refine TRun.toCall 50 rfl ?_; first
            | refine TRun.call rfl rfl rfl rfl k50 rfl rfl ?_ rfl ?_)
          | refine TRun.same rfl rfl rfl ?_
          | refine TRun.same2 rfl rfl rfl ?_
          | refine TRun.yes rfl rfl (by omega) rfl ?_
          | refine TRun.no rfl rfl (by omega) rfl ?_
          | refine TRun.split rfl rfl rfl rfl (fun h => ?_) (fun h => ?_))
      | (refine HoldsT.id ?_; first
          | refine HoldsT.seq ?_
          | refine HoldsT.regionU ?_
          | refine HoldsT.drawn tabs2 ?_
          | refine HoldsT.yes rfl ?_
          | refine HoldsT.no rfl ?_
          | refine HoldsT.cond rfl (fun h => ?_) (fun h => ?_)
          | refine HoldsT.block ?_
          | refine HoldsT.ret ?_
          | refine HoldsT.skip ?_
          | refine HoldsT.exit ?_)
      | (refine okTr_intro ?_; kernel_rfl)
      | exact absurd rfl h
      | refine allProp_C ?_ ?_
      | refine And.intro ?_ ?_
      | omega
      | (show _ < List.length _; omega)
      | exact rowlen_intro rfl
      | exact lenEq_intro rfl
      | exact Nat.le_of_ble_eq_true rfl
      | (simp only [AV.rowlenD, AV.rowlen, AV.ncells, mulSz, toN, Option.map_some, Option.map_none, cutL, List.length_take, List.length_drop, List.length_append, List.length_cons, List.length_nil, List.length_set, Option.some.injEq, Int.reduceToNat] <;> omega))
    · have hs : w ++ mo = cutL ls none (some (plL ls a + 1).toNat) ++ repS mo (i.toNat + 1) := by rw [g3, repS, List.append_assoc]
      refine ⟨(i + 1, w ++ mo), ⟨by simp only; omega, by simp only; omega, by simp only; omega, by simp only; rw [toNat_succ g1]; exact hs⟩, ?_⟩
      refine WeakT.of ?_ ?_ (by kernel_rfl)
      · repeat' (first | exact TTle.junk _ _ | exact TTle.same _ | refine TTle.node ?_ ?_ | refine TTle.leaf ?_ | exact AVle.junk _ | exact AVle.rfl' rfl | exact AVle.nilS | exact AVle.nilB | exact AVle.rfl' (congrArg (AV.own 85) List.length_append.symm))
      · repeat' (first | exact OOle.none _ _ | exact OOle.same _ | refine OOle.node ?_ ?_ | exact OOle.leaf _ | exact OOle.gone _)
    all_goals exact FinC.te (y := .bool true) rfl rfl trivial rfl

set_option maxRecDepth 10000 in
set_option maxHeartbeats 8000000 in
theorem p19_false1 (ls mo : List (List UInt8)) (a c n : Int) (hL : ls.length ≤ 140737488355328) (hB : ∀ n : Nat, (ls.getD n []).length ≤ 140737488355328) (hM : mo.length ≤ 140737488355328) (hMB : ∀ n : Nat, (mo.getD n []).length ≤ 140737488355328) (ha : inK .u16 a) (hc : inK .u16 c) (hn : inK .u8 n) (hm : n.tmod 3 + 1 = 1)
    (hg : (decide (0 < (ls.length : Int)) && lightL ls) = true ∧ (decide (0 < (mo.length : Int)) && lightL mo) = true ∧ mo.length ≤ 8) : Pure Try.prog 19 [.slS ls, .slS mo, .int .u16 a, .int .u16 c, .bool false, .int .u8 n] (.bool true) := by
  obtain ⟨hg1, hg2, hg3⟩ := hg
  have k27 := p27 ls hL hB
  have k27m := p27 mo hM hMB
  rw [hg1] at k27
  rw [hg2] at k27m
  obtain ⟨h0, hl, hr⟩ := light_len hg1
  obtain ⟨m0, ml, mr⟩ := light_len hg2
  have ha0 : 0 ≤ a ∧ a ≤ 65535 := ha
  have hc0 : 0 ≤ c ∧ c ≤ 65535 := hc
  have hn0 : 0 ≤ n ∧ n ≤ 255 := hn
  have hms : sumL mo ≤ 1200 ∧ mo.all noLF = true := by
    simp only [lightL, Bool.and_eq_true, decide_eq_true_eq] at hg2
    exact ⟨hg2.2.1.2, hg2.2.2⟩
  have hpl := place_ok (a := a) (b := c) h0 ha0.1 hc0.1
  obtain ⟨q1, q2, q3, q4⟩ := of_decide_eq_true hpl
  have k28 := p28 ls a c h0 ha0 hc0 (fun n => by have := hr n; omega)
  have hmay : mayL mo 1 = true := may_iff.2 ⟨⟨by omega, by omega, by omega, by unfold sizeL; omega⟩, hms.2⟩
  have k79 := p79l_false1 ls mo (plL ls a) (plC ls a c) (by omega) (fun n => by have := hr n; omega) hpl (by omega) (by omega) (fun n => by have := mr n; omega)
  obtain ⟨new, hnew⟩ : ∃ x, x = mo := ⟨_, rfl⟩
  obtain ⟨at', hat⟩ : ∃ x, x = plL ls a + 1 := ⟨_, rfl⟩
  have e0 : new.getD 0 [] = mo.getD 0 [] := by
    rw [hnew]
  have hnl : new.length = 1 * mo.length := by rw [hnew]; omega
  have hnB : ∀ n : Nat, (new.getD n []).length ≤ 1200 := by rw [hnew]; exact mr
  have k79 : Pure Try.prog 79 [.slS ls, .agg [.int .i64 (plL ls a), .int .i64 (plC ls a c)], .agg [.int .i64 1, .slS mo], .bool false, .int .i64 1] (TyR.av ⟨true, at', [], new, at', firstL (mo.getD 0 [])⟩) := by
    rw [← e0, hnew, hat]; exact k79
  have hok : appOk ls at' [] new = true := decide_eq_true ⟨by omega, by omega, by simp; omega, by simp [midL, cutL], by simp; omega⟩
  have hap : appL ls at' [] new = ls.take at'.toNat ++ new ++ ls.drop at'.toNat := by rw [appL, if_pos hok]; simp [cutL]
  obtain ⟨now, hnow⟩ : ∃ x, x = appL ls at' [] new := ⟨_, rfl⟩
  have hl1 : (ls.take at'.toNat).length = at'.toNat := by rw [List.length_take]; omega
  have hnl2 : now.length = ls.length + new.length := by
    rw [hnow, hap]; simp only [List.length_append, List.length_take, List.length_drop]; omega
  have hnowB := (appL_small (ls := ls) (old := []) (new := new) (a := at') (b := 1200) hr hnB).2
  rw [← hnow] at hnowB
  have hgd : now.getD at'.toNat [] = mo.getD 0 [] := by
    rw [← e0, hnow, hap, List.append_assoc, List.getD_eq_getElem?_getD, List.getElem?_append_right (by omega), hl1, List.getElem?_append_left (by omega), Nat.sub_self, List.getD_eq_getElem?_getD]
  have k54 := p54w ls mo (plL ls a) (plC ls a c) 1 1 false (by omega) (by omega) (by omega) hpl hmay at' at' (firstL (mo.getD 0 [])) [] new (by simp) (by omega) (by rw [← hnow]; omega) (fun n => by rw [← hnow]; have := hnowB n; omega) (by rw [← hnow]; omega) hok k79
  rw [← hnow] at k54
  have r1 : clL now at' = at' := by unfold clL; omega
  have r2 : clC now at' (firstL (mo.getD 0 [])) false = firstL (mo.getD 0 []) := by
    have hf := first_in (mo.getD 0 [])
    unfold clC
    rw [r1, hgd]
    show min (max (firstL (mo.getD 0 [])) 0) (max (((mo.getD 0 []).length : Int) - 1) 0) = _
    omega
  rw [r1, r2] at k54
  have k41 := p41 ls [] new at' (by omega) (by simp) (by omega)
  rw [hok, ← hnow] at k41
  have hwant : cutL ls none (some at'.toNat) ++ repS mo (n.tmod 3 + 1).toNat ++ cutL ls (some at'.toNat) none = now := by
    rw [hnow, hap, hm, hnew]; simp [repS, cutL]
  have k50 := p50 (mo.getD 0 []) (by have := mr 0; omega)
  have k54 : Pure Try.prog 54 [.slS ls, .agg [.int .i64 (plL ls a), .int .i64 (plC ls a c)], .agg [.int .i64 1, .slS mo], .bool false, .int .i64 (n.tmod 3 + 1)] (.tup [.agg [.int .i64 at', .slS [], .slS new], .agg [.int .i64 at', .int .i64 (firstL (mo.getD 0 []))], .bool true]) := by
    rw [hm]; exact k54
  subst hat
  exact p19w_false ls mo new now a c n (by omega) (by omega) (by omega) hg3 hn0 ⟨q1, q2⟩ hwant k27 k27m k28 k54 k41 k50

set_option maxRecDepth 10000 in
set_option maxHeartbeats 8000000 in
theorem p19_false2 (ls mo : List (List UInt8)) (a c n : Int) (hL : ls.length ≤ 140737488355328) (hB : ∀ n : Nat, (ls.getD n []).length ≤ 140737488355328) (hM : mo.length ≤ 140737488355328) (hMB : ∀ n : Nat, (mo.getD n []).length ≤ 140737488355328) (ha : inK .u16 a) (hc : inK .u16 c) (hn : inK .u8 n) (hm : n.tmod 3 + 1 = 2)
    (hg : (decide (0 < (ls.length : Int)) && lightL ls) = true ∧ (decide (0 < (mo.length : Int)) && lightL mo) = true ∧ mo.length ≤ 8) : Pure Try.prog 19 [.slS ls, .slS mo, .int .u16 a, .int .u16 c, .bool false, .int .u8 n] (.bool true) := by
  obtain ⟨hg1, hg2, hg3⟩ := hg
  have k27 := p27 ls hL hB
  have k27m := p27 mo hM hMB
  rw [hg1] at k27
  rw [hg2] at k27m
  obtain ⟨h0, hl, hr⟩ := light_len hg1
  obtain ⟨m0, ml, mr⟩ := light_len hg2
  have ha0 : 0 ≤ a ∧ a ≤ 65535 := ha
  have hc0 : 0 ≤ c ∧ c ≤ 65535 := hc
  have hn0 : 0 ≤ n ∧ n ≤ 255 := hn
  have hms : sumL mo ≤ 1200 ∧ mo.all noLF = true := by
    simp only [lightL, Bool.and_eq_true, decide_eq_true_eq] at hg2
    exact ⟨hg2.2.1.2, hg2.2.2⟩
  have hpl := place_ok (a := a) (b := c) h0 ha0.1 hc0.1
  obtain ⟨q1, q2, q3, q4⟩ := of_decide_eq_true hpl
  have k28 := p28 ls a c h0 ha0 hc0 (fun n => by have := hr n; omega)
  have hmay : mayL mo 2 = true := may_iff.2 ⟨⟨by omega, by omega, by omega, by unfold sizeL; omega⟩, hms.2⟩
  have k79 := p79l_false2 ls mo (plL ls a) (plC ls a c) (by omega) (fun n => by have := hr n; omega) hpl (by omega) (by omega) (fun n => by have := mr n; omega)
  obtain ⟨new, hnew⟩ : ∃ x, x = mo ++ mo := ⟨_, rfl⟩
  obtain ⟨at', hat⟩ : ∃ x, x = plL ls a + 1 := ⟨_, rfl⟩
  have e0 : new.getD 0 [] = mo.getD 0 [] := by
    rw [hnew]; simp only [List.getD_eq_getElem?_getD, List.append_assoc]; rw [List.getElem?_append_left (by omega)]
  have hnl : new.length = 2 * mo.length := by rw [hnew]; simp only [List.length_append]; omega
  have hnB : ∀ n : Nat, (new.getD n []).length ≤ 1200 := by rw [hnew]; exact getD_append_le mr mr
  have k79 : Pure Try.prog 79 [.slS ls, .agg [.int .i64 (plL ls a), .int .i64 (plC ls a c)], .agg [.int .i64 1, .slS mo], .bool false, .int .i64 2] (TyR.av ⟨true, at', [], new, at', firstL (mo.getD 0 [])⟩) := by
    rw [← e0, hnew, hat]; exact k79
  have hok : appOk ls at' [] new = true := decide_eq_true ⟨by omega, by omega, by simp; omega, by simp [midL, cutL], by simp; omega⟩
  have hap : appL ls at' [] new = ls.take at'.toNat ++ new ++ ls.drop at'.toNat := by rw [appL, if_pos hok]; simp [cutL]
  obtain ⟨now, hnow⟩ : ∃ x, x = appL ls at' [] new := ⟨_, rfl⟩
  have hl1 : (ls.take at'.toNat).length = at'.toNat := by rw [List.length_take]; omega
  have hnl2 : now.length = ls.length + new.length := by
    rw [hnow, hap]; simp only [List.length_append, List.length_take, List.length_drop]; omega
  have hnowB := (appL_small (ls := ls) (old := []) (new := new) (a := at') (b := 1200) hr hnB).2
  rw [← hnow] at hnowB
  have hgd : now.getD at'.toNat [] = mo.getD 0 [] := by
    rw [← e0, hnow, hap, List.append_assoc, List.getD_eq_getElem?_getD, List.getElem?_append_right (by omega), hl1, List.getElem?_append_left (by omega), Nat.sub_self, List.getD_eq_getElem?_getD]
  have k54 := p54w ls mo (plL ls a) (plC ls a c) 1 2 false (by omega) (by omega) (by omega) hpl hmay at' at' (firstL (mo.getD 0 [])) [] new (by simp) (by omega) (by rw [← hnow]; omega) (fun n => by rw [← hnow]; have := hnowB n; omega) (by rw [← hnow]; omega) hok k79
  rw [← hnow] at k54
  have r1 : clL now at' = at' := by unfold clL; omega
  have r2 : clC now at' (firstL (mo.getD 0 [])) false = firstL (mo.getD 0 []) := by
    have hf := first_in (mo.getD 0 [])
    unfold clC
    rw [r1, hgd]
    show min (max (firstL (mo.getD 0 [])) 0) (max (((mo.getD 0 []).length : Int) - 1) 0) = _
    omega
  rw [r1, r2] at k54
  have k41 := p41 ls [] new at' (by omega) (by simp) (by omega)
  rw [hok, ← hnow] at k41
  have hwant : cutL ls none (some at'.toNat) ++ repS mo (n.tmod 3 + 1).toNat ++ cutL ls (some at'.toNat) none = now := by
    rw [hnow, hap, hm, hnew]; simp [repS, cutL]
  have k50 := p50 (mo.getD 0 []) (by have := mr 0; omega)
  have k54 : Pure Try.prog 54 [.slS ls, .agg [.int .i64 (plL ls a), .int .i64 (plC ls a c)], .agg [.int .i64 1, .slS mo], .bool false, .int .i64 (n.tmod 3 + 1)] (.tup [.agg [.int .i64 at', .slS [], .slS new], .agg [.int .i64 at', .int .i64 (firstL (mo.getD 0 []))], .bool true]) := by
    rw [hm]; exact k54
  subst hat
  exact p19w_false ls mo new now a c n (by omega) (by omega) (by omega) hg3 hn0 ⟨q1, q2⟩ hwant k27 k27m k28 k54 k41 k50

set_option maxRecDepth 10000 in
set_option maxHeartbeats 8000000 in
theorem p19_false3 (ls mo : List (List UInt8)) (a c n : Int) (hL : ls.length ≤ 140737488355328) (hB : ∀ n : Nat, (ls.getD n []).length ≤ 140737488355328) (hM : mo.length ≤ 140737488355328) (hMB : ∀ n : Nat, (mo.getD n []).length ≤ 140737488355328) (ha : inK .u16 a) (hc : inK .u16 c) (hn : inK .u8 n) (hm : n.tmod 3 + 1 = 3)
    (hg : (decide (0 < (ls.length : Int)) && lightL ls) = true ∧ (decide (0 < (mo.length : Int)) && lightL mo) = true ∧ mo.length ≤ 8) : Pure Try.prog 19 [.slS ls, .slS mo, .int .u16 a, .int .u16 c, .bool false, .int .u8 n] (.bool true) := by
  obtain ⟨hg1, hg2, hg3⟩ := hg
  have k27 := p27 ls hL hB
  have k27m := p27 mo hM hMB
  rw [hg1] at k27
  rw [hg2] at k27m
  obtain ⟨h0, hl, hr⟩ := light_len hg1
  obtain ⟨m0, ml, mr⟩ := light_len hg2
  have ha0 : 0 ≤ a ∧ a ≤ 65535 := ha
  have hc0 : 0 ≤ c ∧ c ≤ 65535 := hc
  have hn0 : 0 ≤ n ∧ n ≤ 255 := hn
  have hms : sumL mo ≤ 1200 ∧ mo.all noLF = true := by
    simp only [lightL, Bool.and_eq_true, decide_eq_true_eq] at hg2
    exact ⟨hg2.2.1.2, hg2.2.2⟩
  have hpl := place_ok (a := a) (b := c) h0 ha0.1 hc0.1
  obtain ⟨q1, q2, q3, q4⟩ := of_decide_eq_true hpl
  have k28 := p28 ls a c h0 ha0 hc0 (fun n => by have := hr n; omega)
  have hmay : mayL mo 3 = true := may_iff.2 ⟨⟨by omega, by omega, by omega, by unfold sizeL; omega⟩, hms.2⟩
  have k79 := p79l_false3 ls mo (plL ls a) (plC ls a c) (by omega) (fun n => by have := hr n; omega) hpl (by omega) (by omega) (fun n => by have := mr n; omega)
  obtain ⟨new, hnew⟩ : ∃ x, x = mo ++ mo ++ mo := ⟨_, rfl⟩
  obtain ⟨at', hat⟩ : ∃ x, x = plL ls a + 1 := ⟨_, rfl⟩
  have e0 : new.getD 0 [] = mo.getD 0 [] := by
    rw [hnew]; simp only [List.getD_eq_getElem?_getD, List.append_assoc]; rw [List.getElem?_append_left (by omega)]
  have hnl : new.length = 3 * mo.length := by rw [hnew]; simp only [List.length_append]; omega
  have hnB : ∀ n : Nat, (new.getD n []).length ≤ 1200 := by rw [hnew]; exact getD_append_le (getD_append_le mr mr) mr
  have k79 : Pure Try.prog 79 [.slS ls, .agg [.int .i64 (plL ls a), .int .i64 (plC ls a c)], .agg [.int .i64 1, .slS mo], .bool false, .int .i64 3] (TyR.av ⟨true, at', [], new, at', firstL (mo.getD 0 [])⟩) := by
    rw [← e0, hnew, hat]; exact k79
  have hok : appOk ls at' [] new = true := decide_eq_true ⟨by omega, by omega, by simp; omega, by simp [midL, cutL], by simp; omega⟩
  have hap : appL ls at' [] new = ls.take at'.toNat ++ new ++ ls.drop at'.toNat := by rw [appL, if_pos hok]; simp [cutL]
  obtain ⟨now, hnow⟩ : ∃ x, x = appL ls at' [] new := ⟨_, rfl⟩
  have hl1 : (ls.take at'.toNat).length = at'.toNat := by rw [List.length_take]; omega
  have hnl2 : now.length = ls.length + new.length := by
    rw [hnow, hap]; simp only [List.length_append, List.length_take, List.length_drop]; omega
  have hnowB := (appL_small (ls := ls) (old := []) (new := new) (a := at') (b := 1200) hr hnB).2
  rw [← hnow] at hnowB
  have hgd : now.getD at'.toNat [] = mo.getD 0 [] := by
    rw [← e0, hnow, hap, List.append_assoc, List.getD_eq_getElem?_getD, List.getElem?_append_right (by omega), hl1, List.getElem?_append_left (by omega), Nat.sub_self, List.getD_eq_getElem?_getD]
  have k54 := p54w ls mo (plL ls a) (plC ls a c) 1 3 false (by omega) (by omega) (by omega) hpl hmay at' at' (firstL (mo.getD 0 [])) [] new (by simp) (by omega) (by rw [← hnow]; omega) (fun n => by rw [← hnow]; have := hnowB n; omega) (by rw [← hnow]; omega) hok k79
  rw [← hnow] at k54
  have r1 : clL now at' = at' := by unfold clL; omega
  have r2 : clC now at' (firstL (mo.getD 0 [])) false = firstL (mo.getD 0 []) := by
    have hf := first_in (mo.getD 0 [])
    unfold clC
    rw [r1, hgd]
    show min (max (firstL (mo.getD 0 [])) 0) (max (((mo.getD 0 []).length : Int) - 1) 0) = _
    omega
  rw [r1, r2] at k54
  have k41 := p41 ls [] new at' (by omega) (by simp) (by omega)
  rw [hok, ← hnow] at k41
  have hwant : cutL ls none (some at'.toNat) ++ repS mo (n.tmod 3 + 1).toNat ++ cutL ls (some at'.toNat) none = now := by
    rw [hnow, hap, hm, hnew]; simp [repS, cutL]
  have k50 := p50 (mo.getD 0 []) (by have := mr 0; omega)
  have k54 : Pure Try.prog 54 [.slS ls, .agg [.int .i64 (plL ls a), .int .i64 (plC ls a c)], .agg [.int .i64 1, .slS mo], .bool false, .int .i64 (n.tmod 3 + 1)] (.tup [.agg [.int .i64 at', .slS [], .slS new], .agg [.int .i64 at', .int .i64 (firstL (mo.getD 0 []))], .bool true]) := by
    rw [hm]; exact k54
  subst hat
  exact p19w_false ls mo new now a c n (by omega) (by omega) (by omega) hg3 hn0 ⟨q1, q2⟩ hwant k27 k27m k28 k54 k41 k50

set_option maxRecDepth 10000 in
set_option maxHeartbeats 8000000 in
theorem p19 (ls mo : List (List UInt8)) (a c : Int) (b : Bool) (n : Int) (hL : ls.length ≤ 140737488355328) (hB : ∀ n : Nat, (ls.getD n []).length ≤ 140737488355328) (hM : mo.length ≤ 140737488355328) (hMB : ∀ n : Nat, (mo.getD n []).length ≤ 140737488355328) (ha : inK .u16 a) (hc : inK .u16 c) (hn : inK .u8 n) : Pure Try.prog 19 [.slS ls, .slS mo, .int .u16 a, .int .u16 c, .bool b, .int .u8 n] (.bool true) := by
  have hn0 : 0 ≤ n ∧ n ≤ 255 := hn
  have hn3 := tmod_in hn0.1 (show (0 : Int) < 3 by omega)
  by_cases hg : (decide (0 < (ls.length : Int)) && lightL ls) = true ∧ (decide (0 < (mo.length : Int)) && lightL mo) = true ∧ mo.length ≤ 8
  · have hm : n.tmod 3 + 1 = 1 ∨ n.tmod 3 + 1 = 2 ∨ n.tmod 3 + 1 = 3 := by omega
    cases b with
    | true =>
      rcases hm with hm | hm | hm
      · exact p19_true1 ls mo a c n hL hB hM hMB ha hc hn hm hg
      · exact p19_true2 ls mo a c n hL hB hM hMB ha hc hn hm hg
      · exact p19_true3 ls mo a c n hL hB hM hMB ha hc hn hm hg
    | false =>
      rcases hm with hm | hm | hm
      · exact p19_false1 ls mo a c n hL hB hM hMB ha hc hn hm hg
      · exact p19_false2 ls mo a c n hL hB hM hMB ha hc hn hm hg
      · exact p19_false3 ls mo a c n hL hB hM hMB ha hc hn hm hg
  · have hg' : (decide (0 < (ls.length : Int)) && lightL ls) = true → (decide (0 < (mo.length : Int)) && lightL mo) = true → mo.length ≤ 8 → False := fun x y z => hg ⟨x, y, z⟩
    have k27 := p27 ls hL hB
    have k27m := p27 mo hM hMB
    generalize (decide (0 < (ls.length : Int)) && lightL ls) = g1 at *
    generalize (decide (0 < (mo.length : Int)) && lightL mo) = g2 at *
    refine Pure.ofT tab2_ok Try.func19 rfl rfl [.tmp 12] rfl (by decide) rfl ⟨112, 7, (.node (.node (.node (.node (.node (.node (.node (.leaf (.slS ls)) (J 0)) (J 1)) (J 2)) (J 3)) (.node (.node (.node (.node (.leaf (.bool b)) (J 0)) (J 1)) (J 2)) (J 3))) (.node (.node (.node (.node (.node (.leaf (.int .u16 a)) (J 0)) (J 1)) (J 2)) (J 3)) (J 4))) (.node (.node (.node (.node (.node (.node (.leaf (.slS mo)) (J 0)) (J 1)) (J 2)) (J 3)) (.node (.node (.node (.node (.leaf (.int .u8 n)) (J 0)) (J 1)) (J 2)) (J 3))) (.node (.node (.node (.node (.node (.leaf (.int .u16 c)) (J 0)) (J 1)) (J 2)) (J 3)) (J 4)))), (OO 7)⟩ (by kernel_rfl) (by kernel_rfl) ?_
    repeat' (first
      | refine allProp_T ?_
      | exact trivial
      | (refine URun.id ?_; first
          | refine URun.nil ?_
          | refine URun.many tabs2 rfl rfl (by kernel_rfl) ?_ ?_
          | (refine URun.toCall 52 rfl ?_; first
            | refine URun.call tabs2 rfl rfl rfl rfl p52 rfl rfl ?_ rfl ?_)
          | (refine URun.toCall 27 rfl ?_; first
            | refine URun.callB tabs2 rfl rfl rfl rfl k27 rfl rfl ?_ rfl rfl (fun h => ?_) (fun h => ?_)
            | refine URun.callB tabs2 rfl rfl rfl rfl k27m rfl rfl ?_ rfl rfl (fun h => ?_) (fun h => ?_))
          | refine URun.same tabs2 rfl rfl rfl ?_
          | refine URun.same2 tabs2 rfl rfl rfl ?_
          | refine URun.yes tabs2 rfl rfl (by omega) rfl ?_
          | refine URun.no tabs2 rfl rfl (by omega) rfl ?_
          | refine URun.split tabs2 rfl rfl rfl rfl (fun h => ?_) (fun h => ?_))
      | (refine TRun.id ?_; first
          | refine TRun.nil ?_
          | refine TRun.many rfl rfl (by kernel_rfl) ?_ ?_
          | (refine TRun.toCall 52 rfl ?_; first
            | refine TRun.call rfl rfl rfl rfl p52 rfl rfl ?_ rfl ?_)
          | (refine TRun.toCall 27 rfl ?_; first
            | refine TRun.callB rfl rfl rfl rfl k27 rfl rfl ?_ rfl rfl (fun h => ?_) (fun h => ?_)
            | refine TRun.callB rfl rfl rfl rfl k27m rfl rfl ?_ rfl rfl (fun h => ?_) (fun h => ?_))
          | refine TRun.same rfl rfl rfl ?_
          | refine TRun.same2 rfl rfl rfl ?_
          | refine TRun.yes rfl rfl (by omega) rfl ?_
          | refine TRun.no rfl rfl (by omega) rfl ?_
          | refine TRun.split rfl rfl rfl rfl (fun h => ?_) (fun h => ?_))
      | (refine HoldsT.id ?_; first
          | refine HoldsT.seq ?_
          | refine HoldsT.regionU ?_
          | refine HoldsT.drawn tabs2 ?_
          | refine HoldsT.yes rfl ?_
          | refine HoldsT.no rfl ?_
          | refine HoldsT.cond rfl (fun h => ?_) (fun h => ?_)
          | refine HoldsT.block ?_
          | refine HoldsT.ret ?_
          | refine HoldsT.skip ?_
          | refine HoldsT.exit ?_)
      | (refine okTr_intro ?_; kernel_rfl)
      | exact absurd rfl h
      | exact (hg' ‹_› ‹_› (by omega)).elim
      | refine allProp_C ?_ ?_
      | refine And.intro ?_ ?_
      | omega
      | (show _ < List.length _; omega)
      | exact rowlen_intro rfl
      | exact lenEq_intro rfl
      | exact Nat.le_of_ble_eq_true rfl
      | (simp only [AV.rowlenD, AV.rowlen, AV.ncells, mulSz, toN, Option.map_some, Option.map_none, cutL, List.length_take, List.length_drop, List.length_append, List.length_cons, List.length_nil, List.length_set, Option.some.injEq, Int.reduceToNat] <;> omega))
    all_goals first | exact FinC.te (y := .bool true) rfl rfl trivial rfl | exact (hg' ‹_› ‹_› (by omega)).elim

end Go.Proofs.Ytefbgdnobnemkaa.AM
