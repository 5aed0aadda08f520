/-
  Lines that are joined, as the document says.
-/
import Derived.Test.YtefbgdnobnemkaaDoorD2
set_option linter.unusedSimpArgs false
set_option linter.unusedVariables false
set_option linter.unusedSectionVars false
namespace Go.Proofs.YtefbgdnobnemkaaDoor.AM
open Go Go.RowKit

theorem trim_cons {s : List UInt8} (h : s ≠ []) : (ofK ((s.getD 0 0).toNat : Int) = 0 → trimL s = trimL (s.drop 1)) ∧ (¬ ofK ((s.getD 0 0).toNat : Int) = 0 → trimL s = s) := by
  cases s with
  | nil => exact absurd rfl h
  | cons b r =>
    constructor
    · intro hb
      unfold trimL
      rw [List.dropWhile_cons_of_pos (by unfold blankB; exact decide_eq_true hb)]; rfl
    · intro hb
      unfold trimL
      rw [List.dropWhile_cons_of_neg (by unfold blankB; simpa using hb)]
def sh20o (ls : List (List UInt8)) (l n : Int) (s : List UInt8) (c i : Int) : TS := ⟨107, 7, (.node (.node (.node (.node (.node (.node (.node (.leaf (.slS ls)) (J 0)) (J 1)) (J 2)) (J 3)) (J 4)) (.node (.node (.node (.node (.node (.leaf (.int .i64 n)) (J 0)) (J 1)) (J 2)) (.node (.node (.node (.leaf (.int .i64 c)) (J 0)) (J 1)) (J 2))) (.node (.node (.node (.node (.leaf (.ptr 6 0)) (J 0)) (J 1)) (J 2)) (J 3)))) (.node (.node (.node (.node (.node (.node (.leaf (.int .i64 l)) (J 0)) (J 1)) (J 2)) (.node (.node (.node (.leaf (.str s)) (J 0)) (J 1)) (J 2))) (J 4)) (.node (.node (J 3) (.node (.node (.node (.leaf (.int .i64 i)) (J 0)) (J 1)) (J 2))) (J 4)))), (.node (.node (OO 5) (.node (OO 4) (.node (.node (.node (.node (.leaf (some ⟨true, false, .agg [.int .i64 0, .nilsl, .nilsl], 31⟩)) (OO 0)) (OO 1)) (OO 2)) (OO 3)))) (OO 6))⟩
def sh20i (ls : List (List UInt8)) (l n : Int) (s t : List UInt8) (i : Int) : TS := ⟨107, 7, (.node (.node (.node (.node (.node (.node (.node (.leaf (.slS ls)) (J 0)) (J 1)) (J 2)) (J 3)) (.node (J 3) (.node (.node (.node (.leaf (.str t)) (J 0)) (J 1)) (J 2)))) (.node (.node (.node (.node (.node (.leaf (.int .i64 n)) (J 0)) (J 1)) (J 2)) (J 3)) (.node (.node (.node (.node (.leaf (.ptr 6 0)) (J 0)) (J 1)) (J 2)) (J 3)))) (.node (.node (.node (.node (.node (.node (.leaf (.int .i64 l)) (J 0)) (J 1)) (J 2)) (.node (.node (.node (.leaf (.str s)) (J 0)) (J 1)) (J 2))) (J 4)) (.node (.node (J 3) (.node (.node (.node (.leaf (.int .i64 i)) (J 0)) (J 1)) (J 2))) (J 4)))), (.node (.node (OO 5) (.node (OO 4) (.node (.node (.node (.node (.leaf (some ⟨true, false, .agg [.int .i64 0, .nilsl, .nilsl], 31⟩)) (OO 0)) (OO 1)) (OO 2)) (OO 3)))) (OO 6))⟩
set_option maxRecDepth 10000 in
set_option maxHeartbeats 8000000 in
theorem q20 (ls : List (List UInt8)) (l n : Int) (hL : ls.length ≤ 1000) (hB : ∀ n : Nat, (ls.getD n []).length ≤ 1000000) : Pure Tryd.prog 20 [.slS ls, .int .i64 l, .int .i64 n] (joinR ls l n).av := by
  by_cases hg : 2 ≤ n ∧ 0 ≤ l ∧ l < ls.length ∧ n ≤ (ls.length : Int) - l
  · have e : joinR ls l n = ⟨true, l, midL ls l n, [(joinL ls l n).1], (joinL ls l n).2⟩ := if_pos hg
    rw [e]
    have hb0 := hB l.toNat
    have hM : ((cutL ls (some (l + 1).toNat) (some (l + n).toNat)).length : Int) = n - 1 := by
      simp only [cutL, List.length_drop, List.length_take]; omega
    have hMg : ∀ i : Int, 1 ≤ i → i < n → (cutL ls (some (l + 1).toNat) (some (l + n).toNat)).getD (i - 1).toNat [] = ls.getD (l + i).toNat [] := fun i h1 h2 => by
      simp only [cutL, List.getD_eq_getElem?_getD, List.getElem?_drop]
      rw [List.getElem?_take_of_lt (by omega), show (l + 1).toNat + (i - 1).toNat = (l + i).toNat by omega]
    have k77 := fun now => p77 ls now l (l + n - 1) (by omega) (by omega) (by omega) (by omega)
    rw [show l + n - 1 - l + 1 = n by omega] at k77
    refine Pure.ofT tab2_ok Tryd.func20 rfl rfl [.cell 6 31, .tmp 7, .tmp 8] rfl (by decide) rfl ⟨107, 7, (.node (.node (.node (.node (.node (.node (.node (.leaf (.slS ls)) (J 0)) (J 1)) (J 2)) (J 3)) (J 4)) (.node (.node (.node (.node (.node (.leaf (.int .i64 n)) (J 0)) (J 1)) (J 2)) (J 3)) (J 4))) (.node (.node (.node (.node (.node (.node (.leaf (.int .i64 l)) (J 0)) (J 1)) (J 2)) (J 3)) (J 4)) (J 5))), (OO 7)⟩ (by kernel_rfl) (by kernel_rfl) ?_
    repeat' (first
      | refine allProp_T ?_
      | exact trivial
      | (refine URun.id ?_; first
          | refine URun.nil ?_
          | refine URun.many tabs2 rfl rfl (by kernel_rfl) ?_ ?_
          | refine URun.same tabs2 rfl rfl rfl ?_
          | refine URun.same2 tabs2 rfl rfl rfl ?_
          | refine URun.yes tabs2 rfl rfl (by omega) rfl ?_
          | refine URun.no tabs2 rfl rfl (by omega) rfl ?_
          | refine URun.split tabs2 rfl rfl rfl rfl (fun h => ?_) (fun h => ?_))
      | (refine TRun.id ?_; first
          | refine TRun.nil ?_
          | refine TRun.many rfl rfl (by kernel_rfl) ?_ ?_
          | refine TRun.same rfl rfl rfl ?_
          | refine TRun.same2 rfl rfl rfl ?_
          | refine TRun.yes rfl rfl (by omega) rfl ?_
          | refine TRun.no rfl rfl (by omega) rfl ?_
          | refine TRun.split rfl rfl rfl rfl (fun h => ?_) (fun h => ?_))
      | (refine HoldsT.id ?_; first
          | refine HoldsT.seq ?_
          | refine HoldsT.regionU ?_
          | refine HoldsT.drawn tabs2 ?_
          | refine HoldsT.yes rfl ?_
          | refine HoldsT.no rfl ?_
          | refine HoldsT.cond rfl (fun h => ?_) (fun h => ?_)
          | refine HoldsT.block ?_
          | refine HoldsT.ret ?_
          | refine HoldsT.skip ?_
          | refine HoldsT.exit ?_)
      | (refine okTr_intro ?_; kernel_rfl)
      | exact absurd rfl h
      | refine allProp_C ?_ ?_
      | refine And.intro ?_ ?_
      | omega
      | (show _ < List.length _; omega)
      | exact rowlen_intro rfl
      | exact lenEq_intro rfl
      | exact Nat.le_of_ble_eq_true rfl
      | (simp only [AV.rowlenD, AV.rowlen, AV.ncells, mulSz, toN, Option.map_some, Option.map_none, cutL, List.length_take, List.length_drop, List.length_append, List.length_cons, List.length_nil, List.length_set, Option.some.injEq, Int.reduceToNat] <;> omega))
    unfold joinL
    generalize hMM : cutL ls (some (l + 1).toNat) (some (l + n).toNat) = M at *
    refine HoldsT.loop (fun x : Int × (List UInt8 × Int) => sh20o ls l n x.2.1 x.2.2 x.1) (fun x => (n - x.1).toNat) (fun x => 1 ≤ x.1 ∧ x.1 ≤ n ∧ x.2.1.length ≤ 2000000 * (x.1.toNat + 1) ∧ x.2 = (M.take (x.1 - 1).toNat).foldl joinStep (ls.getD l.toNat [], 0)) (1, (ls.getD l.toNat [], 0)) ?_ ?_ (fun _ => by kernel_rfl) ?_
    · refine WeakT.of ?_ ?_ (by kernel_rfl)
      · repeat' (first | exact TTle.junk _ _ | exact TTle.same _ | refine TTle.node ?_ ?_ | refine TTle.leaf ?_ | exact AVle.junk _ | exact AVle.rfl' rfl | exact AVle.nilS | exact AVle.nilB)
      · repeat' (first | exact OOle.none _ _ | exact OOle.same _ | refine OOle.node ?_ ?_ | exact OOle.leaf _ | exact OOle.gone _)
    · exact ⟨by simp, by simp only; omega, by simp only; omega, rfl⟩
    · intro x hx
      obtain ⟨i, s, c⟩ := x
      obtain ⟨g1, g2, g3, g4⟩ := hx
      simp only at g1 g2 g3 g4
      show HoldsT Tryd.prog _ (sh20o ls l n s c i) _
      repeat' (first
        | refine allProp_T ?_
        | exact trivial
        | (refine URun.id ?_; first
            | refine URun.nil ?_
            | refine URun.many tabs2 rfl rfl (by kernel_rfl) ?_ ?_
            | (refine URun.toCall 35 rfl ?_; first
              | refine URun.call tabs2 rfl rfl rfl rfl (k77 _) rfl rfl ?_ rfl ?_)
            | refine URun.same tabs2 rfl rfl rfl ?_
            | refine URun.same2 tabs2 rfl rfl rfl ?_
            | refine URun.split tabs2 rfl rfl rfl rfl (fun h => ?_) (fun h => ?_))
        | (refine TRun.id ?_; first
            | refine TRun.nil ?_
            | refine TRun.many rfl rfl (by kernel_rfl) ?_ ?_
            | (refine TRun.toCall 35 rfl ?_; first
              | refine TRun.call rfl rfl rfl rfl (k77 _) rfl rfl ?_ rfl ?_)
            | refine TRun.same rfl rfl rfl ?_
            | refine TRun.same2 rfl rfl rfl ?_
            | refine TRun.split rfl rfl rfl rfl (fun h => ?_) (fun h => ?_))
        | (refine HoldsT.id ?_; first
            | refine HoldsT.seq ?_
            | refine HoldsT.regionU ?_
            | refine HoldsT.drawn tabs2 ?_
            | refine HoldsT.yes rfl ?_
            | refine HoldsT.no rfl ?_
            | refine HoldsT.cond rfl (fun h => ?_) (fun h => ?_)
            | refine HoldsT.block ?_
            | refine HoldsT.ret ?_
            | refine HoldsT.skip ?_
            | refine HoldsT.exit ?_)
        | (refine okTr_intro ?_; kernel_rfl)
        | exact absurd rfl h
        | refine allProp_C ?_ ?_
        | refine And.intro ?_ ?_
        | omega
        | (show _ < List.length _; omega)
        | exact rowlen_intro rfl
        | exact lenEq_intro rfl
        | exact Nat.le_of_ble_eq_true rfl
        | (simp only [AV.rowlenD, AV.rowlen, AV.ncells, mulSz, toN, Option.map_some, Option.map_none, cutL, List.length_take, List.length_drop, List.length_append, List.length_cons, List.length_nil, List.length_set, Option.some.injEq, Int.reduceToNat] <;> omega))
      rotate_right
      · refine FinC.te (y := .tup [.agg [.int .i64 _, .slS _, .slS _], .int .i64 _, .bool _]) rfl rfl ⟨⟨trivial, trivial, trivial, trivial⟩, trivial, trivial, trivial⟩ ?_
        have e2 : (s, c) = M.foldl joinStep (ls.getD l.toNat [], 0) := by rw [g4, List.take_of_length_le (by omega)]
        rw [← e2]; rfl
      have hlt : i < n := by omega
      have hj := hB (l + i).toNat
      have htr := trim_le (ls.getD (l + i).toNat [])
      have hst : (M.take i.toNat).foldl joinStep (ls.getD l.toNat [], 0) = joinStep (s, c) (ls.getD (l + i).toNat []) := by
        rw [show i.toNat = (i - 1).toNat + 1 by omega, foldl_take joinStep _ M [] (i - 1).toNat (by omega), ← g4, hMg i g1 hlt]
      have hsl := step_len (s, c) (ls.getD (l + i).toNat [])
      have hps : s ≠ [] → 0 < s.length := List.length_pos_iff.2
      refine HoldsT.loop (fun t : List UInt8 => sh20i ls l n s t i) (fun t => t.length) (fun t => t.length ≤ 1000000 ∧ trimL t = trimL (ls.getD (l + i).toNat [])) (ls.getD (l + i).toNat []) ?_ ⟨hj, rfl⟩ (fun _ => by kernel_rfl) ?_
      · refine WeakT.of ?_ ?_ (by kernel_rfl)
        · repeat' (first | exact TTle.junk _ _ | exact TTle.same _ | refine TTle.node ?_ ?_ | refine TTle.leaf ?_ | exact AVle.junk _ | exact AVle.rfl' rfl | exact AVle.nilS | exact AVle.nilB)
        · repeat' (first | exact OOle.none _ _ | exact OOle.same _ | refine OOle.node ?_ ?_ | exact OOle.leaf _ | exact OOle.gone _)
      · intro t ht
        obtain ⟨t1, t2⟩ := ht
        have hpt : t ≠ [] → 0 < t.length := List.length_pos_iff.2
        have hd1 : (cutL t (some 1) none).length = t.length - 1 := by simp [cutL]
        show HoldsT Tryd.prog _ (sh20i ls l n s t i) _
        repeat' (first
          | refine allProp_T ?_
          | exact trivial
          | (refine URun.id ?_; first
              | refine URun.nil ?_
              | refine URun.many tabs2 rfl rfl (by kernel_rfl) ?_ ?_
              | (refine URun.toCall 22 rfl ?_; first
                | refine URun.call tabs2 rfl rfl rfl rfl (p73 _) rfl rfl ?_ rfl ?_)
              | refine URun.same tabs2 rfl rfl rfl ?_
              | refine URun.same2 tabs2 rfl rfl rfl ?_
              | refine URun.split tabs2 rfl rfl rfl rfl (fun h => ?_) (fun h => ?_))
          | (refine TRun.id ?_; first
              | refine TRun.nil ?_
              | refine TRun.many rfl rfl (by kernel_rfl) ?_ ?_
              | (refine TRun.toCall 22 rfl ?_; first
                | refine TRun.call rfl rfl rfl rfl (p73 _) rfl rfl ?_ rfl ?_)
              | refine TRun.same rfl rfl rfl ?_
              | refine TRun.same2 rfl rfl rfl ?_
              | refine TRun.split rfl rfl rfl rfl (fun h => ?_) (fun h => ?_))
          | (refine HoldsT.id ?_; first
              | refine HoldsT.seq ?_
              | refine HoldsT.regionU ?_
              | refine HoldsT.drawn tabs2 ?_
              | refine HoldsT.yes rfl ?_
              | refine HoldsT.no rfl ?_
              | refine HoldsT.cond rfl (fun h => ?_) (fun h => ?_)
              | refine HoldsT.block ?_
              | refine HoldsT.ret ?_
              | refine HoldsT.skip ?_
              | refine HoldsT.exit ?_)
          | (refine okTr_intro ?_; kernel_rfl)
          | exact absurd rfl h
          | (have q1 := hps ‹_›; omega)
          | (have q1 := hpt ‹_›; omega)
          | exact u8_in _
          | refine allProp_C ?_ ?_
          | refine And.intro ?_ ?_
          | omega
          | (show _ < List.length _; omega)
          | exact rowlen_intro rfl
          | exact lenEq_intro rfl
          | exact Nat.le_of_ble_eq_true rfl
          | (simp only [AV.rowlenD, AV.rowlen, AV.ncells, mulSz, toN, Option.map_some, Option.map_none, cutL, List.length_take, List.length_drop, List.length_append, List.length_cons, List.length_nil, List.length_set, Option.some.injEq, Int.reduceToNat] <;> omega))
        all_goals first
          | exact (‹¬ t ≠ []› ‹¬ t = []›).elim
          | (refine ⟨cutL t (some 1) none, ⟨by have q1 := hpt ‹_›; omega, by omega, ((trim_cons ‹t ≠ []›).1 ‹_›).symm.trans t2⟩, ?_⟩
             refine WeakT.of ?_ ?_ (by kernel_rfl)
             · repeat' (first | exact TTle.junk _ _ | exact TTle.same _ | refine TTle.node ?_ ?_ | refine TTle.leaf ?_ | exact AVle.junk _ | exact AVle.rfl' rfl | exact AVle.nilS | exact AVle.nilB)
             · repeat' (first | exact OOle.none _ _ | exact OOle.same _ | refine OOle.node ?_ ?_ | exact OOle.leaf _ | exact OOle.gone _))
          | (have ht0 : trimL (ls.getD (l + i).toNat []) = t := by
               rw [← t2]
               by_cases hz : t = []
               · rw [hz]; rfl
               · first | exact (trim_cons hz).2 ‹_› | exact absurd ‹t = []› hz
             have hstep : ∀ q : List UInt8 × Int, q = joinStep (s, c) (ls.getD (l + i).toNat []) → AV.str q.1 = AV.str (joinStep (s, c) (ls.getD (l + i).toNat [])).1 ∧ AV.int .i64 q.2 = AV.int .i64 (joinStep (s, c) (ls.getD (l + i).toNat [])).2 := fun q h => by rw [h]; exact ⟨rfl, rfl⟩
             refine ⟨(i + 1, joinStep (s, c) (ls.getD (l + i).toNat [])), ⟨by simp only; omega, by simp only; omega, by simp only; omega, by simp only; rw [show (i + 1).toNat = i.toNat + 1 by omega]; simp only at hsl; omega, by simp only; rw [show i + 1 - 1 = i by omega, hst]⟩, ?_⟩
             first
               | (have hsp : spacedB s t = true := decide_eq_true ⟨‹_›, ‹_›, ‹_›, ‹_›⟩
                  have h1 := hstep (s ++ [32] ++ t, (s.length : Int)) (by unfold joinStep; rw [ht0, if_pos hsp])
                  refine WeakT.of ?_ ?_ (by kernel_rfl)
                  · repeat' (first | exact TTle.junk _ _ | exact TTle.same _ | refine TTle.node ?_ ?_ | refine TTle.leaf ?_ | exact AVle.junk _ | exact AVle.rfl' rfl | exact AVle.nilS | exact AVle.nilB | exact AVle.rfl' h1.1 | exact AVle.rfl' h1.2)
                  · repeat' (first | exact OOle.none _ _ | exact OOle.same _ | refine OOle.node ?_ ?_ | exact OOle.leaf _ | exact OOle.gone _))
               | (have hz : t = [] := ‹_›
                  have hsp : ¬ spacedB s t = true := fun e => (of_decide_eq_true e).2.1 hz
                  have h1 := hstep (s ++ t, max ((s.length : Int) - 1) 0) (by unfold joinStep; rw [ht0, if_neg hsp, if_pos hz])
                  refine WeakT.of ?_ ?_ (by kernel_rfl)
                  · repeat' (first | exact TTle.junk _ _ | exact TTle.same _ | refine TTle.node ?_ ?_ | refine TTle.leaf ?_ | exact AVle.junk _ | exact AVle.rfl' rfl | exact AVle.nilS | exact AVle.nilB | exact AVle.rfl' h1.1 | exact AVle.rfl' h1.2)
                  · repeat' (first | exact OOle.none _ _ | exact OOle.same _ | refine OOle.node ?_ ?_ | exact OOle.leaf _ | exact OOle.gone _))
               | (have hz : ¬ t = [] := ‹_›
                  have hsp : ¬ spacedB s t = true := fun e => by
                    have hh := of_decide_eq_true e
                    first | exact absurd hh.1 ‹_› | exact absurd hh.2.2.1 ‹_› | exact absurd hh.2.2.2 ‹_›
                  have h1 := hstep (s ++ t, (s.length : Int)) (by unfold joinStep; rw [ht0, if_neg hsp, if_neg hz])
                  refine WeakT.of ?_ ?_ (by kernel_rfl)
                  · repeat' (first | exact TTle.junk _ _ | exact TTle.same _ | refine TTle.node ?_ ?_ | refine TTle.leaf ?_ | exact AVle.junk _ | exact AVle.rfl' rfl | exact AVle.nilS | exact AVle.nilB | exact AVle.rfl' h1.1 | exact AVle.rfl' h1.2)
                  · repeat' (first | exact OOle.none _ _ | exact OOle.same _ | refine OOle.node ?_ ?_ | exact OOle.leaf _ | exact OOle.gone _)))
  · have e : joinR ls l n = joNo := if_neg hg
    rw [e]
    refine Pure.ofT tab2_ok Tryd.func20 rfl rfl [.cell 6 31, .tmp 7, .tmp 8] rfl (by decide) rfl ⟨107, 7, (.node (.node (.node (.node (.node (.node (.node (.leaf (.slS ls)) (J 0)) (J 1)) (J 2)) (J 3)) (J 4)) (.node (.node (.node (.node (.node (.leaf (.int .i64 n)) (J 0)) (J 1)) (J 2)) (J 3)) (J 4))) (.node (.node (.node (.node (.node (.node (.leaf (.int .i64 l)) (J 0)) (J 1)) (J 2)) (J 3)) (J 4)) (J 5))), (OO 7)⟩ (by kernel_rfl) (by kernel_rfl) ?_
    repeat' (first
      | refine allProp_T ?_
      | exact trivial
      | (refine URun.id ?_; first
          | refine URun.nil ?_
          | refine URun.many tabs2 rfl rfl (by kernel_rfl) ?_ ?_
          | refine URun.same tabs2 rfl rfl rfl ?_
          | refine URun.same2 tabs2 rfl rfl rfl ?_
          | refine URun.split tabs2 rfl rfl rfl rfl (fun h => ?_) (fun h => ?_))
      | (refine TRun.id ?_; first
          | refine TRun.nil ?_
          | refine TRun.many rfl rfl (by kernel_rfl) ?_ ?_
          | refine TRun.same rfl rfl rfl ?_
          | refine TRun.same2 rfl rfl rfl ?_
          | refine TRun.split rfl rfl rfl rfl (fun h => ?_) (fun h => ?_))
      | (refine HoldsT.id ?_; first
          | refine HoldsT.seq ?_
          | refine HoldsT.regionU ?_
          | refine HoldsT.drawn tabs2 ?_
          | refine HoldsT.yes rfl ?_
          | refine HoldsT.no rfl ?_
          | refine HoldsT.cond rfl (fun h => ?_) (fun h => ?_)
          | refine HoldsT.block ?_
          | refine HoldsT.ret ?_
          | refine HoldsT.skip ?_
          | refine HoldsT.exit ?_)
      | (refine okTr_intro ?_; kernel_rfl)
      | exact absurd rfl h
      | refine allProp_C ?_ ?_
      | refine And.intro ?_ ?_
      | omega
      | (show _ < List.length _; omega)
      | exact rowlen_intro rfl
      | exact lenEq_intro rfl
      | exact Nat.le_of_ble_eq_true rfl
      | (simp only [AV.rowlenD, AV.rowlen, AV.ncells, mulSz, toN, Option.map_some, Option.map_none, cutL, List.length_take, List.length_drop, List.length_append, List.length_cons, List.length_nil, List.length_set, Option.some.injEq, Int.reduceToNat] <;> omega))
    all_goals first
      | exact FinC.t (y := .tup [.agg [.int .i64 _, .nilsl, .nilsl], .int .i64 _, .bool _]) rfl rfl ⟨⟨trivial, trivial, trivial, trivial⟩, trivial, trivial, trivial⟩ noLeJ
      | (exfalso; omega)

end Go.Proofs.YtefbgdnobnemkaaDoor.AM
