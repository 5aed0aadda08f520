/-
  Letters that are typed over others.
-/
import Derived.Test.YtefbgdnobnemkaaF18
set_option linter.unusedSimpArgs false
set_option linter.unusedVariables false
set_option linter.unusedSectionVars false
namespace Go.Proofs.Ytefbgdnobnemkaa.AM
open Go Go.RowKit

theorem sumL_set : ∀ (ls : List (List UInt8)) (i : Nat) (x : List UInt8), i < ls.length → sumL (ls.set i x) + (ls.getD i []).length = sumL ls + x.length
  | [], _, _, h => by simp at h
  | y :: ls, 0, x, _ => by simp [sumL]; omega
  | y :: ls, i + 1, x, h => by
    have := sumL_set ls i x (by simpa using h)
    simp only [sumL, List.set_cons_succ, List.map_cons, List.sum_cons, List.getD_cons_succ] at this ⊢
    omega
theorem sumL_light {ls : List (List UInt8)} (h : (decide (0 < (ls.length : Int)) && lightL ls) = true) : sumL ls ≤ 1200 := by
  simp only [lightL, Bool.and_eq_true, decide_eq_true_eq] at h
  exact h.2.1.2

/-- A line, some bytes over its own. -/
def overL (s t : List UInt8) (c i : Nat) : List UInt8 := s.take c ++ t.take i ++ s.drop (c + i)
theorem overL_len {s t : List UInt8} {c i : Nat} (hc : c ≤ s.length) (hi : i ≤ t.length) : (overL s t c i).length = max s.length (c + i) := by
  unfold overL
  simp only [List.length_append, List.length_take, List.length_drop]
  omega
theorem overL_zero {s t : List UInt8} {c : Nat} : overL s t c 0 = s := by simp [overL]
theorem overL_succ {s t : List UInt8} {c i : Nat} (hc : c ≤ s.length) (hi : i < t.length) : (overL s t c i).take (c + i) ++ t.getD i 0 :: (overL s t c i).drop (c + i + 1) = overL s t c (i + 1) := by
  obtain ⟨m1, m2⟩ := mid_take (s := s) (t := t.take i) (c := c) (r := s.drop (c + i)) hc i (by rw [List.length_take]; omega)
  have e : (overL s t c i).drop (c + i + 1) = s.drop (c + (i + 1)) := by
    unfold overL
    rw [← List.drop_drop, m2, List.drop_drop, Nat.add_assoc]
  rw [e]
  unfold overL
  have et : t.take (i + 1) = t.take i ++ [t.getD i 0] := by
    rw [List.take_add_one, List.getElem?_eq_getElem hi]; simp [hi]
  rw [m1, et]
  simp only [List.append_assoc, List.cons_append, List.nil_append]

section
variable {ls : List (List UInt8)} {l c : Int} {t : List UInt8} {i q : Int} (hp : placeL ls l c = true) (hl : ls.length ≤ 1000000) (hB : ∀ n : Nat, (ls.getD n []).length ≤ 1000000) (h0 : 0 ≤ i) (h1 : i < t.length) (ht : t.length ≤ 60) (hq : q = c + i)
include hp hl hB h0 h1 ht hq
theorem over_type (hk : letterK (t.getD i.toNat 0).toNat = true) : Pure Try.prog 35 [.slS (ls.set l.toNat (overL (ls.getD l.toNat []) t c.toNat i.toNat)), .agg [.int .i64 l, .int .i64 q], .agg [.int .i64 l, .int .i64 c], .int .i64 2, .int .u8 ((t.getD i.toNat 0).toNat : Int)]
    (.tup [.agg [.int .i64 l, .slS [overL (ls.getD l.toNat []) t c.toNat i.toNat], .slS [overL (ls.getD l.toNat []) t c.toNat (i.toNat + 1)]], .agg [.int .i64 l, .int .i64 (q + 1)], .bool true]) := by
  obtain ⟨p1, p2, p3, p4⟩ := place_of hp
  have hlt : l.toNat < ls.length := by omega
  have hb := hB l.toNat
  have hlen := overL_len (s := ls.getD l.toNat []) (t := t) (c := c.toNat) (i := i.toNat) (by omega) (by omega)
  have hB' : ∀ n : Nat, ((ls.set l.toNat (overL (ls.getD l.toNat []) t c.toNat i.toNat)).getD n []).length ≤ 2000000 := fun n => getD_set_le (fun n => by have := hB n; omega) (by omega)
  have h := p35 (ls.set l.toNat (overL (ls.getD l.toNat []) t c.toNat i.toNat)) l q l c 2 ((t.getD i.toNat 0).toNat : Int) (by simp; omega) (fun n => by have := hB' n; omega) ⟨by omega, by have := (t.getD i.toNat 0).toNat_lt; omega⟩
  rw [type_over (place_mk ⟨p1, by simpa using p2, by omega, by rw [getD_set_self hlt, hlen]; omega⟩) hk, getD_set_self hlt, show q.toNat = c.toNat + i.toNat by omega, overL_succ (by omega) (by omega)] at h
  exact h
theorem over_app : Pure Try.prog 41 [.slS (ls.set l.toNat (overL (ls.getD l.toNat []) t c.toNat i.toNat)), .slG 3 [.int .i64 l, .slS [overL (ls.getD l.toNat []) t c.toNat i.toNat], .slS [overL (ls.getD l.toNat []) t c.toNat (i.toNat + 1)]]]
    (.tup [.slS (ls.set l.toNat (overL (ls.getD l.toNat []) t c.toNat (i.toNat + 1))), .bool true]) := by
  obtain ⟨p1, p2, p3, p4⟩ := place_of hp
  have hlt : l.toNat < ls.length := by omega
  have h := p41 (ls.set l.toNat (overL (ls.getD l.toNat []) t c.toNat i.toNat)) [overL (ls.getD l.toNat []) t c.toNat i.toNat] [overL (ls.getD l.toNat []) t c.toNat (i.toNat + 1)] l (by simp; omega) (by simp) (by simp)
  obtain ⟨a1, a2⟩ := app1 (ls := ls.set l.toNat (overL (ls.getD l.toNat []) t c.toNat i.toNat)) (l := l) (x := overL (ls.getD l.toNat []) t c.toNat (i.toNat + 1)) p1 (by simpa using p2)
  rw [getD_set_self hlt] at a1 a2
  rw [a1, a2, List.set_set] at h
  exact h
end

theorem over_fin {s t : List UInt8} {c : Int} (h0 : 0 ≤ c) (h1 : c ≤ s.length) : overL s t c.toNat t.length = cutL s none (some c.toNat) ++ t ++ cutL s (some (min (c + (t.length : Int)) (s.length : Int)).toNat) none := by
  unfold overL cutL
  simp only [List.take_length]
  congr 1
  rcases Int.le_total (c + (t.length : Int)) s.length with h | h
  · rw [Int.min_eq_left h, show (c + (t.length : Int)).toNat = c.toNat + t.length by omega]
  · rw [Int.min_eq_right h, List.drop_eq_nil_of_le (by omega), List.drop_eq_nil_of_le (by omega)]

def sh10 (ls : List (List UInt8)) (a b : Int) (t : List UInt8) (l c q : Int) (now : List (List UInt8)) (i : Int) : TS := ⟨132, 8, (.node (.node (.node (.node (.node (.node (.node (.node (.leaf (.slS ls)) (J 0)) (J 1)) (J 2)) (J 3)) (.node (.node (.node (.node (.leaf (.bool false)) (J 0)) (J 1)) (J 2)) (J 3))) (.node (J 4) (.node (.node (.node (.node (.leaf (.int .i64 i)) (J 0)) (J 1)) (J 2)) (J 3)))) (.node (.node (.node (.node (.node (.node (.leaf (.int .u16 b)) (J 0)) (J 1)) (J 2)) (J 3)) (.node (.node (.node (.node (.leaf (.ptr 10 0)) (J 0)) (J 1)) (J 2)) (J 3))) (J 5))) (.node (.node (.node (.node (.node (.node (.node (.leaf (.int .u16 a)) (J 0)) (J 1)) (J 2)) (J 3)) (.node (.node (.node (.node (.leaf (.ptr 9 0)) (J 0)) (J 1)) (J 2)) (J 3))) (J 5)) (.node (.node (.node (.node (.node (.node (.leaf (.str t)) (J 0)) (J 1)) (J 2)) (J 3)) (.node (.node (.node (.node (.leaf (.slS now)) (J 0)) (J 1)) (J 2)) (J 3))) (J 5)))), (.node (.node (OO 6) (.node (.node (OO 4) (.node (.node (.node (.node (.leaf (some ⟨true, false, .agg [.int .i64 l, .int .i64 q], 23⟩)) (OO 0)) (OO 1)) (OO 2)) (OO 3))) (OO 5))) (.node (.node (.node (OO 4) (.node (.node (.node (.node (.leaf (some ⟨true, false, .agg [.int .i64 l, .int .i64 c], 23⟩)) (OO 0)) (OO 1)) (OO 2)) (OO 3))) (OO 5)) (OO 6)))⟩

section
variable (ls : List (List UInt8)) (a b : Int) (t : List UInt8) (hL : ls.length ≤ 140737488355328) (hB : ∀ n : Nat, (ls.getD n []).length ≤ 140737488355328)
include hL hB
set_option maxRecDepth 10000 in
set_option maxHeartbeats 8000000 in
theorem p10 (ht : t.length ≤ 140737488355328) (ha : inK .u16 a) (hb : inK .u16 b) : Pure Try.prog 10 [.slS ls, .int .u16 a, .int .u16 b, .str t] (.bool true) := by
  have k27 := p27 ls hL hB
  cases hok : (decide (0 < (ls.length : Int)) && lightL ls) with
  | false =>
    rw [hok] at k27
    refine Pure.ofT tab_ok Try.func10 rfl rfl [.tmp 8] rfl (by decide) rfl ⟨132, 8, (.node (.node (.node (.node (.node (.node (.node (.node (.leaf (.slS ls)) (J 0)) (J 1)) (J 2)) (J 3)) (J 4)) (J 5)) (.node (.node (.node (.node (.node (.node (.leaf (.int .u16 b)) (J 0)) (J 1)) (J 2)) (J 3)) (J 4)) (J 5))) (.node (.node (.node (.node (.node (.node (.node (.leaf (.int .u16 a)) (J 0)) (J 1)) (J 2)) (J 3)) (J 4)) (J 5)) (.node (.node (.node (.node (.node (.node (.leaf (.str t)) (J 0)) (J 1)) (J 2)) (J 3)) (J 4)) (J 5)))), (OO 8)⟩ (by kernel_rfl) (by kernel_rfl) ?_
    repeat' (first
      | refine allProp_T ?_
      | exact trivial
      | (refine URun.id ?_; first
          | refine URun.nil ?_
          | refine URun.many tabs rfl rfl (by kernel_rfl) ?_ ?_
          | (refine URun.toCall 34 rfl ?_; first
            | refine URun.call tabs rfl rfl rfl rfl p34 rfl rfl ?_ rfl ?_)
          | (refine URun.toCall 27 rfl ?_; first
            | refine URun.call tabs rfl rfl rfl rfl k27 rfl rfl ?_ rfl ?_)
          | refine URun.same tabs rfl rfl rfl ?_
          | refine URun.same2 tabs rfl rfl rfl ?_
          | refine URun.split tabs rfl rfl rfl rfl (fun h => ?_) (fun h => ?_))
      | (refine TRun.id ?_; first
          | refine TRun.nil ?_
          | refine TRun.many rfl rfl (by kernel_rfl) ?_ ?_
          | (refine TRun.toCall 34 rfl ?_; first
            | refine TRun.call rfl rfl rfl rfl p34 rfl rfl ?_ rfl ?_)
          | (refine TRun.toCall 27 rfl ?_; first
            | refine TRun.call rfl rfl rfl rfl k27 rfl rfl ?_ rfl ?_)
          | refine TRun.same rfl rfl rfl ?_
          | refine TRun.same2 rfl rfl rfl ?_
          | refine TRun.split rfl rfl rfl rfl (fun h => ?_) (fun h => ?_))
      | (refine HoldsT.id ?_; first
          | refine HoldsT.seq ?_
          | refine HoldsT.regionU ?_
          | refine HoldsT.drawn tabs ?_
          | refine HoldsT.yes rfl ?_
          | refine HoldsT.no rfl ?_
          | refine HoldsT.cond rfl (fun h => ?_) (fun h => ?_)
          | refine HoldsT.block ?_
          | refine HoldsT.ret ?_
          | refine HoldsT.skip ?_
          | refine HoldsT.exit ?_)
      | (refine okTr_intro ?_; kernel_rfl)
      | exact absurd rfl h
      | refine allProp_C ?_ ?_
      | refine And.intro ?_ ?_
      | omega
      | (show _ < List.length _; omega)
      | exact rowlen_intro rfl
      | exact lenEq_intro rfl
      | exact Nat.le_of_ble_eq_true rfl
      | (simp only [AV.rowlenD, AV.rowlen, AV.ncells, mulSz, toN, Option.map_some, Option.map_none, cutL, List.length_take, List.length_drop, List.length_append, List.length_cons, List.length_nil, List.length_set, Option.some.injEq, Int.reduceToNat] <;> omega))
    all_goals exact FinC.te (y := .bool true) rfl rfl trivial rfl
  | true =>
    rw [hok] at k27
    obtain ⟨h0, hl, hr⟩ := light_len hok
    have hsum := sumL_light hok
    have k28 := p28 ls a b h0 ha hb hB
    have hp := place_ok (ls := ls) h0 ha.1 hb.1
    generalize plL ls a = l at k28 hp
    generalize plC ls a b = c at k28 hp
    obtain ⟨hp1, hp2, hp3, hp4⟩ := place_of hp
    have hr1 := hr l.toNat
    have hlt : l.toNat < ls.length := by omega
    have hl' : ls.length ≤ 1000000 := by omega
    have hr' : ∀ n : Nat, (ls.getD n []).length ≤ 1000000 := fun n => by have := hr n; omega
    refine Pure.ofT tab_ok Try.func10 rfl rfl [.tmp 8] rfl (by decide) rfl ⟨132, 8, (.node (.node (.node (.node (.node (.node (.node (.node (.leaf (.slS ls)) (J 0)) (J 1)) (J 2)) (J 3)) (J 4)) (J 5)) (.node (.node (.node (.node (.node (.node (.leaf (.int .u16 b)) (J 0)) (J 1)) (J 2)) (J 3)) (J 4)) (J 5))) (.node (.node (.node (.node (.node (.node (.node (.leaf (.int .u16 a)) (J 0)) (J 1)) (J 2)) (J 3)) (J 4)) (J 5)) (.node (.node (.node (.node (.node (.node (.leaf (.str t)) (J 0)) (J 1)) (J 2)) (J 3)) (J 4)) (J 5)))), (OO 8)⟩ (by kernel_rfl) (by kernel_rfl) ?_
    repeat' (first
      | refine allProp_T ?_
      | exact trivial
      | (refine URun.id ?_; first
          | refine URun.nil ?_
          | refine URun.many tabs rfl rfl (by kernel_rfl) ?_ ?_
          | (refine URun.toCall 34 rfl ?_; first
            | refine URun.call tabs rfl rfl rfl rfl p34 rfl rfl ?_ rfl ?_)
          | (refine URun.toCall 27 rfl ?_; first
            | refine URun.call tabs rfl rfl rfl rfl k27 rfl rfl ?_ rfl ?_)
          | (refine URun.toCall 28 rfl ?_; first
            | refine URun.call tabs rfl rfl rfl rfl k28 rfl rfl ?_ rfl ?_)
          | refine URun.same tabs rfl rfl rfl ?_
          | refine URun.same2 tabs rfl rfl rfl ?_
          | refine URun.split tabs rfl rfl rfl rfl (fun h => ?_) (fun h => ?_))
      | (refine TRun.id ?_; first
          | refine TRun.nil ?_
          | refine TRun.many rfl rfl (by kernel_rfl) ?_ ?_
          | (refine TRun.toCall 34 rfl ?_; first
            | refine TRun.call rfl rfl rfl rfl p34 rfl rfl ?_ rfl ?_)
          | (refine TRun.toCall 27 rfl ?_; first
            | refine TRun.call rfl rfl rfl rfl k27 rfl rfl ?_ rfl ?_)
          | (refine TRun.toCall 28 rfl ?_; first
            | refine TRun.call rfl rfl rfl rfl k28 rfl rfl ?_ rfl ?_)
          | refine TRun.same rfl rfl rfl ?_
          | refine TRun.same2 rfl rfl rfl ?_
          | refine TRun.split rfl rfl rfl rfl (fun h => ?_) (fun h => ?_))
      | (refine HoldsT.id ?_; first
          | refine HoldsT.seq ?_
          | refine HoldsT.regionU ?_
          | refine HoldsT.drawn tabs ?_
          | refine HoldsT.yes rfl ?_
          | refine HoldsT.no rfl ?_
          | refine HoldsT.cond rfl (fun h => ?_) (fun h => ?_)
          | refine HoldsT.block ?_
          | refine HoldsT.ret ?_
          | refine HoldsT.skip ?_
          | refine HoldsT.exit ?_)
      | (refine okTr_intro ?_; kernel_rfl)
      | exact absurd rfl h
      | refine allProp_C ?_ ?_
      | refine And.intro ?_ ?_
      | omega
      | (show _ < List.length _; omega)
      | exact rowlen_intro rfl
      | exact lenEq_intro rfl
      | exact Nat.le_of_ble_eq_true rfl
      | (simp only [AV.rowlenD, AV.rowlen, AV.ncells, mulSz, toN, Option.map_some, Option.map_none, cutL, List.length_take, List.length_drop, List.length_append, List.length_cons, List.length_nil, List.length_set, Option.some.injEq, Int.reduceToNat] <;> omega))
    · exact FinC.te (y := .bool true) rfl rfl trivial rfl
    · have ht' : t.length ≤ 60 := by omega
      refine HoldsT.loop (fun x : Int × Int => sh10 ls a b t l c x.2 (ls.set l.toNat (overL (ls.getD l.toNat []) t c.toNat x.1.toNat)) x.1) (fun x => (t.length - x.1).toNat) (fun x => 0 ≤ x.1 ∧ x.1 ≤ t.length ∧ x.2 = c + x.1 ∧ ∀ k ∈ t.take x.1.toNat, letterK k.toNat = true) (0, c) ?_ ?_ (fun _ => by kernel_rfl) ?_
      · have e : ls.set l.toNat (overL (ls.getD l.toNat []) t c.toNat (0 : Int).toNat) = ls := by
          rw [show (0 : Int).toNat = 0 from rfl, overL_zero]; simp [hlt]
        simp only [e]
        refine WeakT.of ?_ ?_ (by kernel_rfl)
        · repeat' (first | exact TTle.junk _ _ | exact TTle.same _ | refine TTle.node ?_ ?_ | refine TTle.leaf ?_ | exact AVle.junk _ | exact AVle.rfl' rfl | exact AVle.nilS | exact AVle.nilB)
        · repeat' (first | exact OOle.none _ _ | exact OOle.same _ | refine OOle.node ?_ ?_ | exact OOle.leaf _ | exact OOle.gone _)
      · exact ⟨by simp, by simp, by simp, fun k hk => by simp at hk⟩
      · intro x hx
        obtain ⟨i, q⟩ := x
        obtain ⟨h1, h2, h3, h4⟩ := hx
        simp only at h1 h2 h3 h4
        show HoldsT Try.prog _ (sh10 ls a b t l c q (ls.set l.toNat (overL (ls.getD l.toNat []) t c.toNat i.toNat)) i) _
        have k35 := fun (hi : i < t.length) (hk : letterK (t.getD i.toNat 0).toNat = true) => over_type hp hl' hr' h1 hi ht' h3 hk
        have k41 := fun (hi : i < t.length) => over_app hp hl' hr' h1 hi ht' h3
        have hB2 : ∀ n : Nat, ((ls.set l.toNat (overL (ls.getD l.toNat []) t c.toNat i.toNat)).getD n []).length ≤ 1000000 := fun n => getD_set_le hr' (by rw [overL_len (by omega) (by omega)]; omega)
        have hss := sumL_set ls l.toNat (overL (ls.getD l.toNat []) t c.toNat i.toNat) hlt
        rw [overL_len (by omega) (by omega)] at hss
        have hsz : sizeL ls ≤ 2000 := by unfold sizeL; omega
        have k33a := p33 (ls.set l.toNat (overL (ls.getD l.toNat []) t c.toNat i.toNat)) (by simp; omega) (by omega)
        have k33b := p33 ls (by omega) (by omega)
        have f1 : (t.length : Int) ≤ i → (ls.set l.toNat (overL (ls.getD l.toNat []) t c.toNat i.toNat)).getD l.toNat [] = cutL (ls.getD l.toNat []) none (some c.toNat) ++ t ++ cutL (ls.getD l.toNat []) (some (min (c + (t.length : Int)) ((ls.getD l.toNat []).length : Int)).toNat) none := fun hi => by
          rw [getD_set_self hlt, show i.toNat = t.length by omega]; exact over_fin hp3 hp4
        have f2 : (t.length : Int) ≤ i → (sizeL (ls.set l.toNat (overL (ls.getD l.toNat []) t c.toNat i.toNat)) : Int) = (sizeL ls : Int) + max (c + (t.length : Int) - ((ls.getD l.toNat []).length : Int)) 0 := fun hi => by
          unfold sizeL; rw [List.length_set]; omega
        repeat' (first
          | refine allProp_T ?_
          | exact trivial
          | (refine URun.id ?_; first
              | refine URun.nil ?_
              | refine URun.many tabs rfl rfl (by kernel_rfl) ?_ ?_
              | (refine URun.toCall 35 rfl ?_; first
                | refine URun.call tabs rfl rfl rfl rfl (k35 (by assumption) (decide_eq_true (.inl ⟨by omega, by omega⟩))) rfl rfl ?_ rfl ?_)
              | (refine URun.toCall 41 rfl ?_; first
                | refine URun.call tabs rfl rfl rfl rfl (k41 (by assumption)) rfl rfl ?_ rfl ?_)
              | (refine URun.toCall 33 rfl ?_; first
                | refine URun.call tabs rfl rfl rfl rfl k33a rfl rfl ?_ rfl ?_
                | refine URun.call tabs rfl rfl rfl rfl k33b rfl rfl ?_ rfl ?_)
              | refine URun.same tabs rfl rfl rfl ?_
              | refine URun.same2 tabs rfl rfl rfl ?_
              | refine URun.yes tabs rfl rfl (fun h => h rfl) rfl ?_
              | refine URun.no tabs rfl rfl (fun h => h rfl) rfl ?_
              | refine URun.yes tabs rfl rfl (fun h => h ⟨rfl, rfl⟩) rfl ?_
              | refine URun.no tabs rfl rfl (fun h => h ⟨rfl, rfl⟩) rfl ?_
              | refine URun.yes tabs rfl rfl (f1 (by omega)) rfl ?_
              | refine URun.no tabs rfl rfl (f1 (by omega)) rfl ?_
              | refine URun.yes tabs rfl rfl (f2 (by omega)) rfl ?_
              | refine URun.no tabs rfl rfl (f2 (by omega)) rfl ?_
              | refine URun.yes tabs rfl rfl (show q = c + (t.length : Int) by omega) rfl ?_
              | refine URun.no tabs rfl rfl (show q = c + (t.length : Int) by omega) rfl ?_
              | refine URun.split tabs rfl rfl rfl rfl (fun h => ?_) (fun h => ?_))
          | (refine TRun.id ?_; first
              | refine TRun.nil ?_
              | refine TRun.many rfl rfl (by kernel_rfl) ?_ ?_
              | (refine TRun.toCall 35 rfl ?_; first
                | refine TRun.call rfl rfl rfl rfl (k35 (by assumption) (decide_eq_true (.inl ⟨by omega, by omega⟩))) rfl rfl ?_ rfl ?_)
              | (refine TRun.toCall 41 rfl ?_; first
                | refine TRun.call rfl rfl rfl rfl (k41 (by assumption)) rfl rfl ?_ rfl ?_)
              | (refine TRun.toCall 33 rfl ?_; first
                | refine TRun.call rfl rfl rfl rfl k33a rfl rfl ?_ rfl ?_
                | refine TRun.call rfl rfl rfl rfl k33b rfl rfl ?_ rfl ?_)
              | refine TRun.same rfl rfl rfl ?_
              | refine TRun.same2 rfl rfl rfl ?_
              | refine TRun.yes rfl rfl (fun h => h rfl) rfl ?_
              | refine TRun.no rfl rfl (fun h => h rfl) rfl ?_
              | refine TRun.yes rfl rfl (fun h => h ⟨rfl, rfl⟩) rfl ?_
              | refine TRun.no rfl rfl (fun h => h ⟨rfl, rfl⟩) rfl ?_
              | refine TRun.yes rfl rfl (f1 (by omega)) rfl ?_
              | refine TRun.no rfl rfl (f1 (by omega)) rfl ?_
              | refine TRun.yes rfl rfl (f2 (by omega)) rfl ?_
              | refine TRun.no rfl rfl (f2 (by omega)) rfl ?_
              | refine TRun.yes rfl rfl (show q = c + (t.length : Int) by omega) rfl ?_
              | refine TRun.no rfl rfl (show q = c + (t.length : Int) by omega) rfl ?_
              | refine TRun.split rfl rfl rfl rfl (fun h => ?_) (fun h => ?_))
          | (refine HoldsT.id ?_; first
              | refine HoldsT.seq ?_
              | refine HoldsT.regionU ?_
              | refine HoldsT.drawn tabs ?_
              | refine HoldsT.yes rfl ?_
              | refine HoldsT.no rfl ?_
              | refine HoldsT.cond rfl (fun h => ?_) (fun h => ?_)
              | refine HoldsT.block ?_
              | refine HoldsT.ret ?_
              | refine HoldsT.skip ?_
              | refine HoldsT.exit ?_)
          | (refine okTr_intro ?_; kernel_rfl)
          | exact absurd rfl h
          | exact rowGk rfl rfl rfl
          | refine allProp_C ?_ ?_
          | refine And.intro ?_ ?_
          | omega
          | (show _ < List.length _; omega)
          | exact rowlen_intro rfl
          | exact lenEq_intro rfl
          | exact Nat.le_of_ble_eq_true rfl
          | (simp only [AV.rowlenD, AV.rowlen, AV.ncells, mulSz, toN, Option.map_some, Option.map_none, cutL, List.length_take, List.length_drop, List.length_append, List.length_cons, List.length_nil, List.length_set, Option.some.injEq, Int.reduceToNat] <;> omega))
        · exact FinC.te (y := .bool true) rfl rfl trivial rfl
        · exact FinC.te (y := .bool true) rfl rfl trivial rfl
        · refine ⟨(i + 1, q + 1), ⟨by simp only; omega, by simp only; omega, by simp only; omega, by simp only; omega, all_more h4 h1 (by omega) (by assumption) h⟩, ?_⟩
          simp only [toNat_succ h1]
          refine WeakT.of ?_ ?_ (by kernel_rfl)
          · repeat' (first | exact TTle.junk _ _ | exact TTle.same _ | refine TTle.node ?_ ?_ | refine TTle.leaf ?_ | exact AVle.junk _ | exact AVle.rfl' rfl | exact AVle.nilS | exact AVle.nilB)
          · repeat' (first | exact OOle.none _ _ | exact OOle.same _ | refine OOle.node ?_ ?_ | exact OOle.leaf _ | exact OOle.gone _)
        · exact FinC.te (y := .bool true) rfl rfl trivial rfl
end

end Go.Proofs.Ytefbgdnobnemkaa.AM
