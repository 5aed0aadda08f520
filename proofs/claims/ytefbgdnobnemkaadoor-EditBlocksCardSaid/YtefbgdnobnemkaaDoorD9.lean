/-
  A block that is cut out: the law.
-/
import Derived.Test.YtefbgdnobnemkaaDoorD4
set_option linter.unusedSimpArgs false
set_option linter.unusedVariables false
set_option linter.unusedSectionVars false
namespace Go.Proofs.YtefbgdnobnemkaaDoor.AM
open Go Go.RowKit

theorem rg_bound (ls : List (List UInt8)) (k a b c d : Int) (h0 : 0 < (ls.length : Int)) (ha : 0 ≤ a) (hb : 0 ≤ b) (hc : 0 ≤ c) (hd : 0 ≤ d) (hr : ∀ n : Nat, (ls.getD n []).length ≤ 1200) : (rgL ls k a b c d).tc ≤ 1200 ∧ (rgL ls k a b c d).fc ≤ 1200 := by
  have p1 : 0 ≤ rgP ls (rgF ls a b) c ∧ rgP ls (rgF ls a b) c < ((ls.getD (rgF ls a b).toNat []).length : Int) + 1 := tmod_in hc (by omega)
  have p2 : 0 ≤ rgP ls (rgT ls a b) d ∧ rgP ls (rgT ls a b) d < ((ls.getD (rgT ls a b).toNat []).length : Int) + 1 := tmod_in hd (by omega)
  have b1 := hr (rgF ls a b).toNat
  have b2 := hr (rgT ls a b).toNat
  unfold rgL rgS
  split <;> (simp only; omega)
def sh6 (ls old new t : List (List UInt8)) (fl fc tl tc i : Int) : TS := ⟨143, 8, (.node (.node (.node (.node (.node (.node (.node (.node (.leaf (.slS ls)) (J 0)) (J 1)) (J 2)) (J 3)) (J 4)) (.node (J 4) (.node (.node (.node (.node (.leaf (.ptr 12 0)) (J 0)) (J 1)) (J 2)) (J 3)))) (.node (J 5) (.node (J 4) (.node (.node (.node (.node (.leaf (.slS t)) (J 0)) (J 1)) (J 2)) (J 3))))) (.node (J 6) (.node (.node (J 4) (.node (.node (.node (.node (.leaf (.ptr 11 0)) (J 0)) (J 1)) (J 2)) (J 3))) (.node (J 4) (.node (.node (.node (.node (.leaf (.int .i64 i)) (J 0)) (J 1)) (J 2)) (J 3)))))), (.node (.node (.node (OO 5) (.node (OO 4) (.node (.node (.node (.node (.leaf (some ⟨true, false, .agg [.int .i64 fl, .slS old, .slS new], 31⟩)) (OO 0)) (OO 1)) (OO 2)) (OO 3)))) (OO 6)) (.node (OO 6) (.node (.node (OO 4) (.node (.node (.node (.node (.leaf (some ⟨true, false, .agg [.int .i64 2, .int .i64 fl, .int .i64 fc, .int .i64 tl, .int .i64 tc], 49⟩)) (OO 0)) (OO 1)) (OO 2)) (OO 3))) (OO 5))))⟩
set_option maxRecDepth 10000 in
set_option maxHeartbeats 8000000 in
theorem q6w (ls old new t : List (List UInt8)) (a b c d fl fc tl tc n : Int) (hn : (old.length : Int) = n ∧ (new.length : Int) = n ∧ (t.length : Int) = n) (hnn : n ≤ 1000000) (hoB : ∀ n : Nat, (old.getD n []).length ≤ 1000000) (htB : ∀ n : Nat, (t.getD n []).length ≤ 1000000) (hfc : 0 ≤ fc ∧ fc ≤ tc ∧ tc ≤ 1000000)
    (t0 : ∀ i : Int, 0 ≤ i → i < n → 0 ≤ (min fc (((old.getD i.toNat [])).length : Int)) ∧ (min fc (((old.getD i.toNat [])).length : Int)) + ((t.getD i.toNat [])).length ≤ ((old.getD i.toNat [])).length ∧ (((t.getD i.toNat [])).length : Int) ≤ tc - fc + 1)
    (t1 : ∀ i : Int, 0 ≤ i → i < n → (new.getD i.toNat []) = cutL (old.getD i.toNat []) none (some ((min fc (((old.getD i.toNat [])).length : Int))).toNat) ++ cutL (old.getD i.toNat []) (some ((min fc (((old.getD i.toNat [])).length : Int)) + ((t.getD i.toNat [])).length).toNat) none)
    (t2 : ∀ i : Int, 0 ≤ i → i < n → cutL (old.getD i.toNat []) (some ((min fc (((old.getD i.toNat [])).length : Int))).toNat) (some ((min fc (((old.getD i.toNat [])).length : Int)) + ((t.getD i.toNat [])).length).toNat) = (t.getD i.toNat []))
    (k27 : Pure Tryd.prog 10 [.slS ls] (.bool true)) (k46 : Pure Tryd.prog 23 [.slS ls, .int .u8 2, .int .u16 a, .int .u16 b, .int .u16 c, .int .u16 d] (.agg [.int .i64 2, .int .i64 fl, .int .i64 fc, .int .i64 tl, .int .i64 tc]))
    (k24 : Pure Tryd.prog 24 [.slS ls, .agg [.int .i64 2, .int .i64 fl, .int .i64 fc, .int .i64 tl, .int .i64 tc]] (.tup [.agg [.int .i64 fl, .slS old, .slS new], .bool true])) (k25 : Pure Tryd.prog 25 [.slS ls, .agg [.int .i64 2, .int .i64 fl, .int .i64 fc, .int .i64 tl, .int .i64 tc]] (.slS t)) :
    Pure Tryd.prog 6 [.slS ls, .int .u16 a, .int .u16 b, .int .u16 c, .int .u16 d] (.bool true) := by
  have e1 : ¬ (new.length : Int) ≠ t.length := fun h => h (by omega)
  have e2 : ¬ (old.length : Int) ≠ t.length := fun h => h (by omega)
  refine Pure.ofT tab2_ok Tryd.func6 rfl rfl [.tmp 10] rfl (by decide) rfl ⟨143, 8, (.node (.node (.node (.node (.node (.node (.node (.node (.leaf (.slS ls)) (J 0)) (J 1)) (J 2)) (J 3)) (J 4)) (.node (.node (.node (.node (.node (.leaf (.int .u16 d)) (J 0)) (J 1)) (J 2)) (J 3)) (J 4))) (.node (.node (.node (.node (.node (.node (.leaf (.int .u16 b)) (J 0)) (J 1)) (J 2)) (J 3)) (J 4)) (J 5))) (.node (.node (.node (.node (.node (.node (.node (.leaf (.int .u16 a)) (J 0)) (J 1)) (J 2)) (J 3)) (J 4)) (J 5)) (.node (.node (.node (.node (.node (.node (.leaf (.int .u16 c)) (J 0)) (J 1)) (J 2)) (J 3)) (J 4)) (J 5)))), (OO 8)⟩ (by kernel_rfl) (by kernel_rfl) ?_
  repeat' (first
    | refine allProp_T ?_
    | exact trivial
    | (refine URun.id ?_; first
        | refine URun.nil ?_
        | refine URun.many tabs2 rfl rfl (by kernel_rfl) ?_ ?_
        | (refine URun.toCall 9 rfl ?_; first
          | refine URun.call tabs2 rfl rfl rfl rfl q9 rfl rfl ?_ rfl ?_)
        | (refine URun.toCall 10 rfl ?_; first
          | refine URun.call tabs2 rfl rfl rfl rfl k27 rfl rfl ?_ rfl ?_)
        | (refine URun.toCall 23 rfl ?_; first
          | refine URun.call tabs2 rfl rfl rfl rfl k46 rfl rfl ?_ rfl ?_)
        | (refine URun.toCall 24 rfl ?_; first
          | refine URun.call tabs2 rfl rfl rfl rfl k24 rfl rfl ?_ rfl ?_)
        | (refine URun.toCall 25 rfl ?_; first
          | refine URun.call tabs2 rfl rfl rfl rfl k25 rfl rfl ?_ rfl ?_)
        | refine URun.same tabs2 rfl rfl rfl ?_
        | refine URun.same2 tabs2 rfl rfl rfl ?_
        | refine URun.yes tabs2 rfl rfl e1 rfl ?_
        | refine URun.no tabs2 rfl rfl e1 rfl ?_
        | refine URun.yes tabs2 rfl rfl e2 rfl ?_
        | refine URun.no tabs2 rfl rfl e2 rfl ?_
        | refine URun.yes tabs2 rfl rfl (fun h => h rfl) rfl ?_
        | refine URun.no tabs2 rfl rfl (fun h => h rfl) rfl ?_
        | refine URun.yes tabs2 rfl rfl rfl rfl ?_
        | refine URun.no tabs2 rfl rfl rfl rfl ?_
        | refine URun.split tabs2 rfl rfl rfl rfl (fun h => ?_) (fun h => ?_))
    | (refine TRun.id ?_; first
        | refine TRun.nil ?_
        | refine TRun.many rfl rfl (by kernel_rfl) ?_ ?_
        | (refine TRun.toCall 9 rfl ?_; first
          | refine TRun.call rfl rfl rfl rfl q9 rfl rfl ?_ rfl ?_)
        | (refine TRun.toCall 10 rfl ?_; first
          | refine TRun.call rfl rfl rfl rfl k27 rfl rfl ?_ rfl ?_)
        | (refine TRun.toCall 23 rfl ?_; first
          | refine TRun.call rfl rfl rfl rfl k46 rfl rfl ?_ rfl ?_)
        | (refine TRun.toCall 24 rfl ?_; first
          | refine TRun.call rfl rfl rfl rfl k24 rfl rfl ?_ rfl ?_)
        | (refine TRun.toCall 25 rfl ?_; first
          | refine TRun.call rfl rfl rfl rfl k25 rfl rfl ?_ rfl ?_)
        | refine TRun.same rfl rfl rfl ?_
        | refine TRun.same2 rfl rfl rfl ?_
        | refine TRun.yes rfl rfl e1 rfl ?_
        | refine TRun.no rfl rfl e1 rfl ?_
        | refine TRun.yes rfl rfl e2 rfl ?_
        | refine TRun.no rfl rfl e2 rfl ?_
        | refine TRun.yes rfl rfl (fun h => h rfl) rfl ?_
        | refine TRun.no rfl rfl (fun h => h rfl) rfl ?_
        | refine TRun.yes rfl rfl rfl rfl ?_
        | refine TRun.no rfl rfl rfl rfl ?_
        | refine TRun.split rfl rfl rfl rfl (fun h => ?_) (fun h => ?_))
    | (refine HoldsT.id ?_; first
        | refine HoldsT.seq ?_
        | refine HoldsT.regionU ?_
        | refine HoldsT.drawn tabs2 ?_
        | refine HoldsT.yes rfl ?_
        | refine HoldsT.no rfl ?_
        | refine HoldsT.cond rfl (fun h => ?_) (fun h => ?_)
        | refine HoldsT.block ?_
        | refine HoldsT.ret ?_
        | refine HoldsT.skip ?_
        | refine HoldsT.exit ?_)
    | (refine okTr_intro ?_; kernel_rfl)
    | exact absurd rfl h
    | refine allProp_C ?_ ?_
    | refine And.intro ?_ ?_
    | omega
    | (show _ < List.length _; omega)
    | exact rowlen_intro rfl
    | exact lenEq_intro rfl
    | exact Nat.le_of_ble_eq_true rfl
    | (simp only [AV.rowlenD, AV.rowlen, AV.ncells, mulSz, toN, Option.map_some, Option.map_none, cutL, List.length_take, List.length_drop, List.length_append, List.length_cons, List.length_nil, List.length_set, Option.some.injEq, Int.reduceToNat] <;> omega))
  refine HoldsT.loop (fun i : Int => sh6 ls old new t fl fc tl tc i) (fun i => (n - i).toNat) (fun i => 0 ≤ i ∧ i ≤ n) 0 ?_ ?_ (fun _ => by kernel_rfl) ?_
  · refine WeakT.of ?_ ?_ (by kernel_rfl)
    · repeat' (first | exact TTle.junk _ _ | exact TTle.same _ | refine TTle.node ?_ ?_ | refine TTle.leaf ?_ | exact AVle.junk _ | exact AVle.rfl' rfl | exact AVle.nilS | exact AVle.nilB)
    · repeat' (first | exact OOle.none _ _ | exact OOle.same _ | refine OOle.node ?_ ?_ | exact OOle.leaf _ | exact OOle.gone _)
  · exact ⟨by simp, by omega⟩
  · intro i hi
    obtain ⟨g1, g2⟩ := hi
    have hb := hoB i.toNat
    have hb2 := htB i.toNat
    have s0 : i < t.length → 0 ≤ (min fc (((old.getD i.toNat [])).length : Int)) ∧ (min fc (((old.getD i.toNat [])).length : Int)) + ((t.getD i.toNat [])).length ≤ ((old.getD i.toNat [])).length ∧ (((t.getD i.toNat [])).length : Int) ≤ tc - fc + 1 := fun h => t0 i g1 (by omega)
    have s1 : i < t.length → (new.getD i.toNat []) = cutL (old.getD i.toNat []) none (some ((min fc (((old.getD i.toNat [])).length : Int))).toNat) ++ cutL (old.getD i.toNat []) (some ((min fc (((old.getD i.toNat [])).length : Int)) + ((t.getD i.toNat [])).length).toNat) none := fun h => t1 i g1 (by omega)
    have s2 : i < t.length → cutL (old.getD i.toNat []) (some ((min fc (((old.getD i.toNat [])).length : Int))).toNat) (some ((min fc (((old.getD i.toNat [])).length : Int)) + ((t.getD i.toNat [])).length).toNat) = (t.getD i.toNat []) := fun h => t2 i g1 (by omega)
    show HoldsT Tryd.prog _ (sh6 ls old new t fl fc tl tc i) _
    repeat' (first
      | refine allProp_T ?_
      | exact trivial
      | (refine URun.id ?_; first
          | refine URun.nil ?_
          | refine URun.many tabs2 rfl rfl (by kernel_rfl) ?_ ?_
          | refine URun.same tabs2 rfl rfl rfl ?_
          | refine URun.same2 tabs2 rfl rfl rfl ?_
          | refine URun.yes tabs2 rfl rfl (fun h => h (s1 ‹_›)) rfl ?_
          | refine URun.no tabs2 rfl rfl (fun h => h (s1 ‹_›)) rfl ?_
          | refine URun.yes tabs2 rfl rfl (fun h => h (s2 ‹_›)) rfl ?_
          | refine URun.no tabs2 rfl rfl (fun h => h (s2 ‹_›)) rfl ?_
          | refine URun.yes tabs2 rfl rfl (by omega) rfl ?_
          | refine URun.no tabs2 rfl rfl (by omega) rfl ?_
          | refine URun.split tabs2 rfl rfl rfl rfl (fun h => ?_) (fun h => ?_))
      | (refine TRun.id ?_; first
          | refine TRun.nil ?_
          | refine TRun.many rfl rfl (by kernel_rfl) ?_ ?_
          | refine TRun.same rfl rfl rfl ?_
          | refine TRun.same2 rfl rfl rfl ?_
          | refine TRun.yes rfl rfl (fun h => h (s1 ‹_›)) rfl ?_
          | refine TRun.no rfl rfl (fun h => h (s1 ‹_›)) rfl ?_
          | refine TRun.yes rfl rfl (fun h => h (s2 ‹_›)) rfl ?_
          | refine TRun.no rfl rfl (fun h => h (s2 ‹_›)) rfl ?_
          | refine TRun.yes rfl rfl (by omega) rfl ?_
          | refine TRun.no rfl rfl (by omega) rfl ?_
          | refine TRun.split rfl rfl rfl rfl (fun h => ?_) (fun h => ?_))
      | (refine HoldsT.id ?_; first
          | refine HoldsT.seq ?_
          | refine HoldsT.regionU ?_
          | refine HoldsT.drawn tabs2 ?_
          | refine HoldsT.yes rfl ?_
          | refine HoldsT.no rfl ?_
          | refine HoldsT.cond rfl (fun h => ?_) (fun h => ?_)
          | refine HoldsT.block ?_
          | refine HoldsT.ret ?_
          | refine HoldsT.skip ?_
          | refine HoldsT.exit ?_)
      | (refine okTr_intro ?_; kernel_rfl)
      | exact absurd rfl h
      | refine allProp_C ?_ ?_
      | refine And.intro ?_ ?_
      | omega
      | (show _ < List.length _; omega)
      | exact rowlen_intro rfl
      | exact lenEq_intro rfl
      | exact Nat.le_of_ble_eq_true rfl
      | (simp only [AV.rowlenD, AV.rowlen, AV.ncells, mulSz, toN, Option.map_some, Option.map_none, cutL, List.length_take, List.length_drop, List.length_append, List.length_cons, List.length_nil, List.length_set, Option.some.injEq, Int.reduceToNat] <;> omega))
    all_goals first
      | exact FinC.te (y := .bool true) rfl rfl trivial rfl
      | (refine ⟨i + 1, ⟨by omega, by omega, by omega⟩, ?_⟩
         refine WeakT.of ?_ ?_ (by kernel_rfl)
         · repeat' (first | exact TTle.junk _ _ | exact TTle.same _ | refine TTle.node ?_ ?_ | refine TTle.leaf ?_ | exact AVle.junk _ | exact AVle.rfl' rfl | exact AVle.nilS | exact AVle.nilB)
         · repeat' (first | exact OOle.none _ _ | exact OOle.same _ | refine OOle.node ?_ ?_ | exact OOle.leaf _ | exact OOle.gone _))
set_option maxRecDepth 10000 in
set_option maxHeartbeats 8000000 in
theorem q6 (ls : List (List UInt8)) (a b c d : Int) (hL : ls.length ≤ 140737488355328) (hB : ∀ n : Nat, (ls.getD n []).length ≤ 140737488355328) (ha : inK .u16 a) (hb : inK .u16 b) (hc : inK .u16 c) (hd : inK .u16 d) : Pure Tryd.prog 6 [.slS ls, .int .u16 a, .int .u16 b, .int .u16 c, .int .u16 d] (.bool true) := by
  have k27 := p27 ls hL hB
  cases hok : (decide (0 < (ls.length : Int)) && lightL ls) with
  | false =>
    rw [hok] at k27
    refine Pure.ofT tab2_ok Tryd.func6 rfl rfl [.tmp 10] rfl (by decide) rfl ⟨143, 8, (.node (.node (.node (.node (.node (.node (.node (.node (.leaf (.slS ls)) (J 0)) (J 1)) (J 2)) (J 3)) (J 4)) (.node (.node (.node (.node (.node (.leaf (.int .u16 d)) (J 0)) (J 1)) (J 2)) (J 3)) (J 4))) (.node (.node (.node (.node (.node (.node (.leaf (.int .u16 b)) (J 0)) (J 1)) (J 2)) (J 3)) (J 4)) (J 5))) (.node (.node (.node (.node (.node (.node (.node (.leaf (.int .u16 a)) (J 0)) (J 1)) (J 2)) (J 3)) (J 4)) (J 5)) (.node (.node (.node (.node (.node (.node (.leaf (.int .u16 c)) (J 0)) (J 1)) (J 2)) (J 3)) (J 4)) (J 5)))), (OO 8)⟩ (by kernel_rfl) (by kernel_rfl) ?_
    repeat' (first
      | refine allProp_T ?_
      | exact trivial
      | (refine URun.id ?_; first
          | refine URun.nil ?_
          | refine URun.many tabs2 rfl rfl (by kernel_rfl) ?_ ?_
          | (refine URun.toCall 9 rfl ?_; first
            | refine URun.call tabs2 rfl rfl rfl rfl q9 rfl rfl ?_ rfl ?_)
          | (refine URun.toCall 10 rfl ?_; first
            | refine URun.call tabs2 rfl rfl rfl rfl k27 rfl rfl ?_ rfl ?_)
          | refine URun.same tabs2 rfl rfl rfl ?_
          | refine URun.same2 tabs2 rfl rfl rfl ?_
          | refine URun.split tabs2 rfl rfl rfl rfl (fun h => ?_) (fun h => ?_))
      | (refine TRun.id ?_; first
          | refine TRun.nil ?_
          | refine TRun.many rfl rfl (by kernel_rfl) ?_ ?_
          | (refine TRun.toCall 9 rfl ?_; first
            | refine TRun.call rfl rfl rfl rfl q9 rfl rfl ?_ rfl ?_)
          | (refine TRun.toCall 10 rfl ?_; first
            | refine TRun.call rfl rfl rfl rfl k27 rfl rfl ?_ rfl ?_)
          | refine TRun.same rfl rfl rfl ?_
          | refine TRun.same2 rfl rfl rfl ?_
          | refine TRun.split rfl rfl rfl rfl (fun h => ?_) (fun h => ?_))
      | (refine HoldsT.id ?_; first
          | refine HoldsT.seq ?_
          | refine HoldsT.regionU ?_
          | refine HoldsT.drawn tabs2 ?_
          | refine HoldsT.yes rfl ?_
          | refine HoldsT.no rfl ?_
          | refine HoldsT.cond rfl (fun h => ?_) (fun h => ?_)
          | refine HoldsT.block ?_
          | refine HoldsT.ret ?_
          | refine HoldsT.skip ?_
          | refine HoldsT.exit ?_)
      | (refine okTr_intro ?_; kernel_rfl)
      | exact absurd rfl h
      | refine allProp_C ?_ ?_
      | refine And.intro ?_ ?_
      | omega
      | (show _ < List.length _; omega)
      | exact rowlen_intro rfl
      | exact lenEq_intro rfl
      | exact Nat.le_of_ble_eq_true rfl
      | (simp only [AV.rowlenD, AV.rowlen, AV.ncells, mulSz, toN, Option.map_some, Option.map_none, cutL, List.length_take, List.length_drop, List.length_append, List.length_cons, List.length_nil, List.length_set, Option.some.injEq, Int.reduceToNat] <;> omega))
    all_goals exact FinC.te (y := .bool true) rfl rfl trivial rfl
  | true =>
    rw [hok] at k27
    obtain ⟨h0, hl, hr⟩ := light_len hok
    have k46 := p46 ls 2 a b c d (by omega) h0 (by omega) ha hb hc hd (fun n => by have := hr n; omega)
    have hv := rg_valid ls 2 a b c d h0 (by omega) ha.1 hb.1 hc.1 hd.1
    have hbd := rg_bound ls 2 a b c d h0 ha.1 hb.1 hc.1 hd.1 hr
    rcases hrg : rgL ls 2 a b c d with ⟨k, fl, fc, tl, tc⟩
    rw [hrg] at k46 hv hbd
    obtain ⟨hv, hk⟩ := hv
    simp only at hv hk hbd
    have hk : k = 2 := hk
    subst hk
    have k46 : Pure Tryd.prog 23 [.slS ls, .int .u8 2, .int .u16 a, .int .u16 b, .int .u16 c, .int .u16 d] (.agg [.int .i64 2, .int .i64 fl, .int .i64 fc, .int .i64 tl, .int .i64 tc]) := k46
    obtain ⟨v1, v2⟩ := validL_spec hv
    have hfc : 0 ≤ fc ∧ fc ≤ tc := by
      rcases v2 with q | q | q
      · omega
      · omega
      · exact q.2
    have k24 := p89 ls 2 fl fc tl tc (by omega) (fun n => by have := hr n; omega)
    have k25 := p51 ls 2 fl fc tl tc (by omega) (fun n => by have := hr n; omega)
    have e : cutR ls 2 fl fc tl tc = ⟨true, fl, midL ls fl (tl - fl + 1), eachL (holeL ls 2 fl fc tl tc) fl (tl - fl + 1).toNat⟩ := by unfold cutR; rw [if_pos hv, if_neg (by omega), if_pos rfl]
    rw [e] at k24
    have ht : textL ls 2 fl fc tl tc = (List.range (tl - fl + 1).toNat).map fun i => rowT ls 2 fl fc tl tc (fl + (i : Nat)) := by
      unfold textL; rw [if_pos hv, rowsT_map]
    have hol := mid_len (ls := ls) (a := fl) (n := tl - fl + 1) (by omega) (by omega) (by omega)
    have hnl := eachL_length (holeL ls 2 fl fc tl tc) fl (tl - fl + 1).toNat
    have htl : (textL ls 2 fl fc tl tc).length = (tl - fl + 1).toNat := by rw [ht]; simp
    have hog : ∀ i : Int, 0 ≤ i → i < tl - fl + 1 → (midL ls fl (tl - fl + 1)).getD i.toNat [] = ls.getD (fl + i).toNat [] := fun i g1 g2 => by
      rw [mid_map (by omega) (by omega) (by omega), List.getD_eq_getElem?_getD, List.getElem?_map, List.getElem?_range (by omega)]
      simp only [Option.map_some, Option.getD_some, show (i.toNat : Int) = i by omega]
    have hng : ∀ i : Int, 0 ≤ i → i < tl - fl + 1 → (eachL (holeL ls 2 fl fc tl tc) fl (tl - fl + 1).toNat).getD i.toNat [] = holeL ls 2 fl fc tl tc (fl + i) := fun i g1 g2 => by
      rw [eachL_map, List.getD_eq_getElem?_getD, List.getElem?_map, List.getElem?_range (by omega)]
      simp only [Option.map_some, Option.getD_some, show (i.toNat : Int) = i by omega]
    have htg : ∀ i : Int, 0 ≤ i → i < tl - fl + 1 → (textL ls 2 fl fc tl tc).getD i.toNat [] = rowT ls 2 fl fc tl tc (fl + i) := fun i g1 g2 => by
      rw [ht, List.getD_eq_getElem?_getD, List.getElem?_map, List.getElem?_range (by omega)]
      simp only [Option.map_some, Option.getD_some, show (i.toNat : Int) = i by omega]
    have hoB : ∀ n : Nat, ((midL ls fl (tl - fl + 1)).getD n []).length ≤ 1200 := fun n => mid_getD_le hr n
    have htB : ∀ n : Nat, ((textL ls 2 fl fc tl tc).getD n []).length ≤ 1200 := fun n => by
      rw [ht, List.getD_eq_getElem?_getD, List.getElem?_map]
      by_cases hn : n < (tl - fl + 1).toNat
      · rw [List.getElem?_range hn]
        have := hr (fl + (n : Nat)).toNat
        simp only [Option.map_some, Option.getD_some, rowT, cutL, List.length_drop, List.length_take]; omega
      · rw [List.getElem?_eq_none (by simp; omega)]; simp
    have hrow : ∀ i : Int, 0 ≤ i → i < tl - fl + 1 → colF ls 2 fl fc (fl + i) = min fc ((ls.getD (fl + i).toNat []).length : Int) ∧ colT ls 2 tl tc (fl + i) = min tc (((ls.getD (fl + i).toNat []).length : Int) - 1) + 1 ∧ ((rowT ls 2 fl fc tl tc (fl + i)).length : Int) = colT ls 2 tl tc (fl + i) - colF ls 2 fl fc (fl + i) := fun i g1 g2 => by
      obtain ⟨q1, q2, q3⟩ := cols_ok hv (i := fl + i) (by omega) (by omega)
      have q3 : colT ls 2 tl tc (fl + i) ≤ ((ls.getD (fl + i).toNat []).length : Int) := q3
      refine ⟨?_, ?_, ?_⟩
      · unfold colF lenL; rw [if_neg (by omega), if_pos rfl]
      · unfold colT lenL; rw [if_neg (by omega), if_pos rfl]
      · simp only [rowT, cutL, List.length_drop, List.length_take]; omega
    refine q6w ls (midL ls fl (tl - fl + 1)) (eachL (holeL ls 2 fl fc tl tc) fl (tl - fl + 1).toNat) (textL ls 2 fl fc tl tc) a b c d fl fc tl tc (tl - fl + 1) ⟨hol, by omega, by omega⟩ (by omega) (fun n => by have := hoB n; omega) (fun n => by have := htB n; omega) (by omega) (fun i g1 g2 => ?_) (fun i g1 g2 => ?_) (fun i g1 g2 => ?_) k27 k46 k24 k25
    all_goals obtain ⟨r1, r2, r3⟩ := hrow i g1 g2
    all_goals obtain ⟨q1, q2, q3⟩ := cols_ok hv (i := fl + i) (by omega) (by omega)
    all_goals have q3 : colT ls 2 tl tc (fl + i) ≤ ((ls.getD (fl + i).toNat []).length : Int) := q3
    · rw [hog i g1 g2, htg i g1 g2]; omega
    · rw [hog i g1 g2, htg i g1 g2, hng i g1 g2, r3, ← r1, show colF ls 2 fl fc (fl + i) + (colT ls 2 tl tc (fl + i) - colF ls 2 fl fc (fl + i)) = colT ls 2 tl tc (fl + i) by omega]; rfl
    · rw [hog i g1 g2, htg i g1 g2, r3, ← r1, show colF ls 2 fl fc (fl + i) + (colT ls 2 tl tc (fl + i) - colF ls 2 fl fc (fl + i)) = colT ls 2 tl tc (fl + i) by omega]; rfl

end Go.Proofs.YtefbgdnobnemkaaDoor.AM
