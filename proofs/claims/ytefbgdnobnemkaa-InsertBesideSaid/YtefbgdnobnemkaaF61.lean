/-
  A text that comes into lines: the law.
-/
import Derived.Test.YtefbgdnobnemkaaF60
set_option linter.unusedSimpArgs false
set_option linter.unusedVariables false
set_option linter.unusedSectionVars false
namespace Go.Proofs.Ytefbgdnobnemkaa.AM
open Go Go.RowKit

theorem rowG9 {sz n : Nat} {cs : List AV} {a b c d e f g h i : AV} (hs : sz = 3) (hc : cs = [a, b, c, d, e, f, g, h, i]) (hn : n = 3) : (AV.slG sz cs).rowlen = some n := by subst hs hc hn; simp [AV.rowlen]
theorem bes_len (ls : List (List UInt8)) (f t c : Int) (tx : List UInt8) (b : Bool) : (besR ls f t c tx b).old.length ≤ ls.length ∧ (besR ls f t c tx b).new.length ≤ ls.length := by
  unfold besR
  split
  · rename_i h
    have h1 := mid_len (ls := ls) (a := f) (n := t - f + 1) (by omega) (by omega) (by omega)
    have h2 := eachL_length (rowI ls c tx b) f (t - f + 1).toNat
    exact ⟨by simp only; omega, by simp only; omega⟩
  · exact ⟨by simp [chNo], by simp [chNo]⟩

def sh13true (ls : List (List UInt8)) (f t c a d : Int) (tx : List UInt8) (y : Int) : TS := ⟨102, 7, (.node (.node (.node (.node (.node (.node (.node (.leaf (.slS ls)) (J 0)) (J 1)) (J 2)) (J 3)) (.node (.node (.node (.node (.leaf (.str tx)) (J 0)) (J 1)) (J 2)) (J 3))) (.node (.node (J 3) (.node (J 2) (.node (J 1) (.node (.leaf (.int .i64 3)) (J 0))))) (J 4))) (.node (.node (.node (J 3) (.node (J 2) (.node (J 1) (.node (.leaf (.own 57 3)) (J 0))))) (.node (.node (.node (.node (.leaf (.bool true)) (J 0)) (J 1)) (J 2)) (J 3))) (.node (.node (J 3) (.node (J 2) (.node (J 1) (.node (.leaf (.int .i64 y)) (J 0))))) (J 4)))), (.node (OO 6) (.node (.node (.node (OO 3) (.node (OO 2) (.node (OO 1) (.node (.leaf (some ⟨true, true, .slG 3 [.int .i64 f, .int .i64 t, .int .i64 c, .int .i64 (min a d), .int .i64 (max a d), .int .i64 (c.tmod 40), .int .i64 a, .int .i64 d, .int .i64 (c.tmod 5000)], 64⟩)) (OO 0))))) (OO 4)) (OO 5)))⟩
set_option maxRecDepth 10000 in
set_option maxHeartbeats 8000000 in
theorem p13_true (ls : List (List UInt8)) (f t c : Int) (tx : List UInt8) (hL : ls.length ≤ 140737488355328) (hB : ∀ n : Nat, (ls.getD n []).length ≤ 140737488355328) (hx : tx.length ≤ 140737488355328) (hf : inK .i64 f) (ht : inK .i64 t) (hc : inK .i64 c) : Pure Try.prog 13 [.slS ls, .int .i64 f, .int .i64 t, .int .i64 c, .str tx, .bool true] (.bool true) := by
  have k27 := p27 ls hL hB
  by_cases hg : (decide (0 < (ls.length : Int)) && lightL ls) = true ∧ tx.length ≤ 50
  · obtain ⟨hok, hx5⟩ := hg
    rw [hok] at k27
    obtain ⟨h0, hl, hr⟩ := light_len hok
    have hsum : sumL ls ≤ 1200 := by
      simp only [lightL, Bool.and_eq_true, decide_eq_true_eq] at hok
      exact hok.2.1.2
    have k42 := fun x (h : inK .i64 x) => p42 x ls.length h (by omega)
    have hpl : ∀ x : Int, 0 ≤ (if x.tmod ls.length < 0 then x.tmod ls.length + ls.length else x.tmod ls.length) ∧ (if x.tmod ls.length < 0 then x.tmod ls.length + ls.length else x.tmod ls.length) < ls.length := fun x => by
      have h1 := Int.tmod_lt_of_pos x h0
      have h2 := Int.lt_tmod_of_pos x h0
      split <;> omega
    have hp1 := hpl f
    have hp2 := hpl t
    have k42a := k42 f hf
    have k42b := k42 t ht
    generalize (if f.tmod ls.length < 0 then f.tmod ls.length + ls.length else f.tmod ls.length) = a at *
    generalize (if t.tmod ls.length < 0 then t.tmod ls.length + ls.length else t.tmod ls.length) = d at *
    have k43 := fun f t c => p43_true ls f t c tx (by omega) (fun n => by have := hr n; omega) (by omega)
    have k44 := fun f t c => p44_true ls f t c tx (by omega) (fun n => by have := hr n; omega) (by omega)
    have k37 : ∀ f t c, Pure Try.prog 37 [.agg [.int .i64 (besR ls f t c tx true).at', .slS (besR ls f t c tx true).old, .slS (besR ls f t c tx true).new], .agg [.int .i64 (besR ls f t c tx true).at', .slS (besR ls f t c tx true).old, .slS (besR ls f t c tx true).new]] (.bool true) := fun f t c => by
      have hb := bes_len ls f t c tx true
      have h := p37 (besR ls f t c tx true).at' (besR ls f t c tx true).at' (besR ls f t c tx true).old (besR ls f t c tx true).new (besR ls f t c tx true).old (besR ls f t c tx true).new (by omega) (by omega)
      rwa [decide_eq_true rfl, decide_eq_true rfl, decide_eq_true rfl] at h
    have hc2 : inK .i64 (c.tmod 40) ∧ inK .i64 (c.tmod 5000) := by
      have h1 := Int.tmod_lt_of_pos c (show (0 : Int) < 40 by omega)
      have h2 := Int.lt_tmod_of_pos c (show (0 : Int) < 40 by omega)
      have h3 := Int.tmod_lt_of_pos c (show (0 : Int) < 5000 by omega)
      have h4 := Int.lt_tmod_of_pos c (show (0 : Int) < 5000 by omega)
      exact ⟨⟨by omega, by omega⟩, ⟨by omega, by omega⟩⟩
    have k33 := p33 ls (by omega) (by omega)
    have hsz : 0 < (sizeL ls : Int) := by unfold sizeL; omega
    refine Pure.ofT tab2_ok Try.func13 rfl rfl [.tmp 12] rfl (by decide) rfl ⟨102, 7, (.node (.node (.node (.node (.node (.node (.node (.leaf (.slS ls)) (J 0)) (J 1)) (J 2)) (J 3)) (.node (.node (.node (.node (.leaf (.str tx)) (J 0)) (J 1)) (J 2)) (J 3))) (.node (.node (.node (.node (.node (.leaf (.int .i64 t)) (J 0)) (J 1)) (J 2)) (J 3)) (J 4))) (.node (.node (.node (.node (.node (.node (.leaf (.int .i64 f)) (J 0)) (J 1)) (J 2)) (J 3)) (.node (.node (.node (.node (.leaf (.bool true)) (J 0)) (J 1)) (J 2)) (J 3))) (.node (.node (.node (.node (.node (.leaf (.int .i64 c)) (J 0)) (J 1)) (J 2)) (J 3)) (J 4)))), (OO 7)⟩ (by kernel_rfl) (by kernel_rfl) ?_
    repeat' (first
      | refine allProp_T ?_
      | exact trivial
      | (refine URun.id ?_; first
          | refine URun.nil ?_
          | refine URun.many tabs2 rfl rfl (by kernel_rfl) ?_ ?_
          | (refine URun.toCall 34 rfl ?_; first
            | refine URun.call tabs2 rfl rfl rfl rfl p34 rfl rfl ?_ rfl ?_)
          | (refine URun.toCall 27 rfl ?_; first
            | refine URun.call tabs2 rfl rfl rfl rfl k27 rfl rfl ?_ rfl ?_)
          | (refine URun.toCall 42 rfl ?_; first
            | refine URun.call tabs2 rfl rfl rfl rfl k42a rfl rfl ?_ rfl ?_
            | refine URun.call tabs2 rfl rfl rfl rfl k42b rfl rfl ?_ rfl ?_)
          | refine URun.same tabs2 rfl rfl rfl ?_
          | refine URun.same2 tabs2 rfl rfl rfl ?_
          | refine URun.yes tabs2 rfl rfl (by omega) rfl ?_
          | refine URun.no tabs2 rfl rfl (by omega) rfl ?_
          | refine URun.split tabs2 rfl rfl rfl rfl (fun h => ?_) (fun h => ?_))
      | (refine TRun.id ?_; first
          | refine TRun.nil ?_
          | refine TRun.many rfl rfl (by kernel_rfl) ?_ ?_
          | (refine TRun.toCall 34 rfl ?_; first
            | refine TRun.call rfl rfl rfl rfl p34 rfl rfl ?_ rfl ?_)
          | (refine TRun.toCall 27 rfl ?_; first
            | refine TRun.call rfl rfl rfl rfl k27 rfl rfl ?_ rfl ?_)
          | (refine TRun.toCall 42 rfl ?_; first
            | refine TRun.call rfl rfl rfl rfl k42a rfl rfl ?_ rfl ?_
            | refine TRun.call rfl rfl rfl rfl k42b rfl rfl ?_ rfl ?_)
          | refine TRun.same rfl rfl rfl ?_
          | refine TRun.same2 rfl rfl rfl ?_
          | refine TRun.yes rfl rfl (by omega) rfl ?_
          | refine TRun.no rfl rfl (by omega) rfl ?_
          | refine TRun.split rfl rfl rfl rfl (fun h => ?_) (fun h => ?_))
      | (refine HoldsT.id ?_; first
          | refine HoldsT.seq ?_
          | refine HoldsT.regionU ?_
          | refine HoldsT.drawn tabs2 ?_
          | refine HoldsT.yes rfl ?_
          | refine HoldsT.no rfl ?_
          | refine HoldsT.cond rfl (fun h => ?_) (fun h => ?_)
          | refine HoldsT.block ?_
          | refine HoldsT.ret ?_
          | refine HoldsT.skip ?_
          | refine HoldsT.exit ?_)
      | (refine okTr_intro ?_; kernel_rfl)
      | exact absurd rfl h
      | exact rowG9 rfl rfl rfl
      | refine allProp_C ?_ ?_
      | refine And.intro ?_ ?_
      | omega
      | (show _ < List.length _; omega)
      | exact rowlen_intro rfl
      | exact lenEq_intro rfl
      | exact Nat.le_of_ble_eq_true rfl
      | (simp only [AV.rowlenD, AV.rowlen, AV.ncells, mulSz, toN, Option.map_some, Option.map_none, cutL, List.length_take, List.length_drop, List.length_append, List.length_cons, List.length_nil, List.length_set, Option.some.injEq, Int.reduceToNat] <;> omega))
    refine HoldsT.loop (fun y : Int => sh13true ls f t c a d tx y) (fun y => (3 - y).toNat) (fun y => y = 0 ∨ y = 1 ∨ y = 2 ∨ y = 3) 0 ?_ (.inl rfl) (fun _ => by kernel_rfl) ?_
    · refine WeakT.of ?_ ?_ (by kernel_rfl)
      · repeat' (first | exact TTle.junk _ _ | exact TTle.same _ | refine TTle.node ?_ ?_ | refine TTle.leaf ?_ | exact AVle.junk _ | exact AVle.rfl' rfl | exact AVle.nilS | exact AVle.nilB)
      · repeat' (first | exact OOle.none _ _ | exact OOle.same _ | refine OOle.node ?_ ?_ | exact OOle.leaf _ | exact OOle.gone _)
    · intro y hy
      rcases hy with rfl | rfl | rfl | rfl
      · show HoldsT Try.prog _ (sh13true ls f t c a d tx 0) _
        repeat' (first
          | refine allProp_T ?_
          | exact trivial
          | (refine URun.id ?_; first
              | refine URun.nil ?_
              | refine URun.many tabs2 rfl rfl (by kernel_rfl) ?_ ?_
              | (refine URun.toCall 43 rfl ?_; first
                | refine URun.call tabs2 rfl rfl rfl rfl (k43 _ _ _) rfl rfl ?_ rfl ?_)
              | (refine URun.toCall 44 rfl ?_; first
                | refine URun.call tabs2 rfl rfl rfl rfl (k44 _ _ _) rfl rfl ?_ rfl ?_)
              | (refine URun.toCall 37 rfl ?_; first
                | refine URun.call tabs2 rfl rfl rfl rfl (k37 _ _ _) rfl rfl ?_ rfl ?_)
              | (refine URun.toCall 33 rfl ?_; first
                | refine URun.call tabs2 rfl rfl rfl rfl k33 rfl rfl ?_ rfl ?_)
              | refine URun.same tabs2 rfl rfl rfl ?_
              | refine URun.same2 tabs2 rfl rfl rfl ?_
              | refine URun.yes tabs2 rfl rfl (by decide) rfl ?_
              | refine URun.no tabs2 rfl rfl (by decide) rfl ?_
              | refine URun.yes tabs2 rfl rfl (fun h => h rfl) rfl ?_
              | refine URun.no tabs2 rfl rfl (fun h => h rfl) rfl ?_
              | refine URun.yes tabs2 rfl rfl (by omega) rfl ?_
              | refine URun.no tabs2 rfl rfl (by omega) rfl ?_
              | refine URun.split tabs2 rfl rfl rfl rfl (fun h => ?_) (fun h => ?_))
          | (refine TRun.id ?_; first
              | refine TRun.nil ?_
              | refine TRun.many rfl rfl (by kernel_rfl) ?_ ?_
              | (refine TRun.toCall 43 rfl ?_; first
                | refine TRun.call rfl rfl rfl rfl (k43 _ _ _) rfl rfl ?_ rfl ?_)
              | (refine TRun.toCall 44 rfl ?_; first
                | refine TRun.call rfl rfl rfl rfl (k44 _ _ _) rfl rfl ?_ rfl ?_)
              | (refine TRun.toCall 37 rfl ?_; first
                | refine TRun.call rfl rfl rfl rfl (k37 _ _ _) rfl rfl ?_ rfl ?_)
              | (refine TRun.toCall 33 rfl ?_; first
                | refine TRun.call rfl rfl rfl rfl k33 rfl rfl ?_ rfl ?_)
              | refine TRun.same rfl rfl rfl ?_
              | refine TRun.same2 rfl rfl rfl ?_
              | refine TRun.yes rfl rfl (by decide) rfl ?_
              | refine TRun.no rfl rfl (by decide) rfl ?_
              | refine TRun.yes rfl rfl (fun h => h rfl) rfl ?_
              | refine TRun.no rfl rfl (fun h => h rfl) rfl ?_
              | refine TRun.yes rfl rfl (by omega) rfl ?_
              | refine TRun.no rfl rfl (by omega) rfl ?_
              | refine TRun.split rfl rfl rfl rfl (fun h => ?_) (fun h => ?_))
          | (refine HoldsT.id ?_; first
              | refine HoldsT.seq ?_
              | refine HoldsT.regionU ?_
              | refine HoldsT.drawn tabs2 ?_
              | refine HoldsT.yes rfl ?_
              | refine HoldsT.no rfl ?_
              | refine HoldsT.cond rfl (fun h => ?_) (fun h => ?_)
              | refine HoldsT.block ?_
              | refine HoldsT.ret ?_
              | refine HoldsT.skip ?_
              | refine HoldsT.exit ?_)
          | (refine okTr_intro ?_; kernel_rfl)
          | exact absurd rfl h
          | exact rowG9 rfl rfl rfl
          | refine allProp_C ?_ ?_
          | refine And.intro ?_ ?_
          | omega
          | (show _ < List.length _; omega)
          | exact rowlen_intro rfl
          | exact lenEq_intro rfl
          | exact Nat.le_of_ble_eq_true rfl
          | (simp only [AV.rowlenD, AV.rowlen, AV.ncells, mulSz, toN, Option.map_some, Option.map_none, cutL, List.length_take, List.length_drop, List.length_append, List.length_cons, List.length_nil, List.length_set, Option.some.injEq, Int.reduceToNat] <;> omega))
        · refine ⟨1, ⟨by decide, by decide⟩, ?_⟩
          refine WeakT.of ?_ ?_ (by kernel_rfl)
          · repeat' (first | exact TTle.junk _ _ | exact TTle.same _ | refine TTle.node ?_ ?_ | refine TTle.leaf ?_ | exact AVle.junk _ | exact AVle.rfl' rfl | exact AVle.nilS | exact AVle.nilB)
          · repeat' (first | exact OOle.none _ _ | exact OOle.same _ | refine OOle.node ?_ ?_ | exact OOle.leaf _ | exact OOle.gone _)
      · show HoldsT Try.prog _ (sh13true ls f t c a d tx 1) _
        repeat' (first
          | refine allProp_T ?_
          | exact trivial
          | (refine URun.id ?_; first
              | refine URun.nil ?_
              | refine URun.many tabs2 rfl rfl (by kernel_rfl) ?_ ?_
              | (refine URun.toCall 43 rfl ?_; first
                | refine URun.call tabs2 rfl rfl rfl rfl (k43 _ _ _) rfl rfl ?_ rfl ?_)
              | (refine URun.toCall 44 rfl ?_; first
                | refine URun.call tabs2 rfl rfl rfl rfl (k44 _ _ _) rfl rfl ?_ rfl ?_)
              | (refine URun.toCall 37 rfl ?_; first
                | refine URun.call tabs2 rfl rfl rfl rfl (k37 _ _ _) rfl rfl ?_ rfl ?_)
              | (refine URun.toCall 33 rfl ?_; first
                | refine URun.call tabs2 rfl rfl rfl rfl k33 rfl rfl ?_ rfl ?_)
              | refine URun.same tabs2 rfl rfl rfl ?_
              | refine URun.same2 tabs2 rfl rfl rfl ?_
              | refine URun.yes tabs2 rfl rfl (by decide) rfl ?_
              | refine URun.no tabs2 rfl rfl (by decide) rfl ?_
              | refine URun.yes tabs2 rfl rfl (fun h => h rfl) rfl ?_
              | refine URun.no tabs2 rfl rfl (fun h => h rfl) rfl ?_
              | refine URun.yes tabs2 rfl rfl (by omega) rfl ?_
              | refine URun.no tabs2 rfl rfl (by omega) rfl ?_
              | refine URun.split tabs2 rfl rfl rfl rfl (fun h => ?_) (fun h => ?_))
          | (refine TRun.id ?_; first
              | refine TRun.nil ?_
              | refine TRun.many rfl rfl (by kernel_rfl) ?_ ?_
              | (refine TRun.toCall 43 rfl ?_; first
                | refine TRun.call rfl rfl rfl rfl (k43 _ _ _) rfl rfl ?_ rfl ?_)
              | (refine TRun.toCall 44 rfl ?_; first
                | refine TRun.call rfl rfl rfl rfl (k44 _ _ _) rfl rfl ?_ rfl ?_)
              | (refine TRun.toCall 37 rfl ?_; first
                | refine TRun.call rfl rfl rfl rfl (k37 _ _ _) rfl rfl ?_ rfl ?_)
              | (refine TRun.toCall 33 rfl ?_; first
                | refine TRun.call rfl rfl rfl rfl k33 rfl rfl ?_ rfl ?_)
              | refine TRun.same rfl rfl rfl ?_
              | refine TRun.same2 rfl rfl rfl ?_
              | refine TRun.yes rfl rfl (by decide) rfl ?_
              | refine TRun.no rfl rfl (by decide) rfl ?_
              | refine TRun.yes rfl rfl (fun h => h rfl) rfl ?_
              | refine TRun.no rfl rfl (fun h => h rfl) rfl ?_
              | refine TRun.yes rfl rfl (by omega) rfl ?_
              | refine TRun.no rfl rfl (by omega) rfl ?_
              | refine TRun.split rfl rfl rfl rfl (fun h => ?_) (fun h => ?_))
          | (refine HoldsT.id ?_; first
              | refine HoldsT.seq ?_
              | refine HoldsT.regionU ?_
              | refine HoldsT.drawn tabs2 ?_
              | refine HoldsT.yes rfl ?_
              | refine HoldsT.no rfl ?_
              | refine HoldsT.cond rfl (fun h => ?_) (fun h => ?_)
              | refine HoldsT.block ?_
              | refine HoldsT.ret ?_
              | refine HoldsT.skip ?_
              | refine HoldsT.exit ?_)
          | (refine okTr_intro ?_; kernel_rfl)
          | exact absurd rfl h
          | exact rowG9 rfl rfl rfl
          | refine allProp_C ?_ ?_
          | refine And.intro ?_ ?_
          | omega
          | (show _ < List.length _; omega)
          | exact rowlen_intro rfl
          | exact lenEq_intro rfl
          | exact Nat.le_of_ble_eq_true rfl
          | (simp only [AV.rowlenD, AV.rowlen, AV.ncells, mulSz, toN, Option.map_some, Option.map_none, cutL, List.length_take, List.length_drop, List.length_append, List.length_cons, List.length_nil, List.length_set, Option.some.injEq, Int.reduceToNat] <;> omega))
        · refine ⟨2, ⟨by decide, by decide⟩, ?_⟩
          refine WeakT.of ?_ ?_ (by kernel_rfl)
          · repeat' (first | exact TTle.junk _ _ | exact TTle.same _ | refine TTle.node ?_ ?_ | refine TTle.leaf ?_ | exact AVle.junk _ | exact AVle.rfl' rfl | exact AVle.nilS | exact AVle.nilB)
          · repeat' (first | exact OOle.none _ _ | exact OOle.same _ | refine OOle.node ?_ ?_ | exact OOle.leaf _ | exact OOle.gone _)
      · show HoldsT Try.prog _ (sh13true ls f t c a d tx 2) _
        repeat' (first
          | refine allProp_T ?_
          | exact trivial
          | (refine URun.id ?_; first
              | refine URun.nil ?_
              | refine URun.many tabs2 rfl rfl (by kernel_rfl) ?_ ?_
              | (refine URun.toCall 43 rfl ?_; first
                | refine URun.call tabs2 rfl rfl rfl rfl (k43 _ _ _) rfl rfl ?_ rfl ?_)
              | (refine URun.toCall 44 rfl ?_; first
                | refine URun.call tabs2 rfl rfl rfl rfl (k44 _ _ _) rfl rfl ?_ rfl ?_)
              | (refine URun.toCall 37 rfl ?_; first
                | refine URun.call tabs2 rfl rfl rfl rfl (k37 _ _ _) rfl rfl ?_ rfl ?_)
              | (refine URun.toCall 33 rfl ?_; first
                | refine URun.call tabs2 rfl rfl rfl rfl k33 rfl rfl ?_ rfl ?_)
              | refine URun.same tabs2 rfl rfl rfl ?_
              | refine URun.same2 tabs2 rfl rfl rfl ?_
              | refine URun.yes tabs2 rfl rfl (by decide) rfl ?_
              | refine URun.no tabs2 rfl rfl (by decide) rfl ?_
              | refine URun.yes tabs2 rfl rfl (fun h => h rfl) rfl ?_
              | refine URun.no tabs2 rfl rfl (fun h => h rfl) rfl ?_
              | refine URun.yes tabs2 rfl rfl (by omega) rfl ?_
              | refine URun.no tabs2 rfl rfl (by omega) rfl ?_
              | refine URun.split tabs2 rfl rfl rfl rfl (fun h => ?_) (fun h => ?_))
          | (refine TRun.id ?_; first
              | refine TRun.nil ?_
              | refine TRun.many rfl rfl (by kernel_rfl) ?_ ?_
              | (refine TRun.toCall 43 rfl ?_; first
                | refine TRun.call rfl rfl rfl rfl (k43 _ _ _) rfl rfl ?_ rfl ?_)
              | (refine TRun.toCall 44 rfl ?_; first
                | refine TRun.call rfl rfl rfl rfl (k44 _ _ _) rfl rfl ?_ rfl ?_)
              | (refine TRun.toCall 37 rfl ?_; first
                | refine TRun.call rfl rfl rfl rfl (k37 _ _ _) rfl rfl ?_ rfl ?_)
              | (refine TRun.toCall 33 rfl ?_; first
                | refine TRun.call rfl rfl rfl rfl k33 rfl rfl ?_ rfl ?_)
              | refine TRun.same rfl rfl rfl ?_
              | refine TRun.same2 rfl rfl rfl ?_
              | refine TRun.yes rfl rfl (by decide) rfl ?_
              | refine TRun.no rfl rfl (by decide) rfl ?_
              | refine TRun.yes rfl rfl (fun h => h rfl) rfl ?_
              | refine TRun.no rfl rfl (fun h => h rfl) rfl ?_
              | refine TRun.yes rfl rfl (by omega) rfl ?_
              | refine TRun.no rfl rfl (by omega) rfl ?_
              | refine TRun.split rfl rfl rfl rfl (fun h => ?_) (fun h => ?_))
          | (refine HoldsT.id ?_; first
              | refine HoldsT.seq ?_
              | refine HoldsT.regionU ?_
              | refine HoldsT.drawn tabs2 ?_
              | refine HoldsT.yes rfl ?_
              | refine HoldsT.no rfl ?_
              | refine HoldsT.cond rfl (fun h => ?_) (fun h => ?_)
              | refine HoldsT.block ?_
              | refine HoldsT.ret ?_
              | refine HoldsT.skip ?_
              | refine HoldsT.exit ?_)
          | (refine okTr_intro ?_; kernel_rfl)
          | exact absurd rfl h
          | exact rowG9 rfl rfl rfl
          | refine allProp_C ?_ ?_
          | refine And.intro ?_ ?_
          | omega
          | (show _ < List.length _; omega)
          | exact rowlen_intro rfl
          | exact lenEq_intro rfl
          | exact Nat.le_of_ble_eq_true rfl
          | (simp only [AV.rowlenD, AV.rowlen, AV.ncells, mulSz, toN, Option.map_some, Option.map_none, cutL, List.length_take, List.length_drop, List.length_append, List.length_cons, List.length_nil, List.length_set, Option.some.injEq, Int.reduceToNat] <;> omega))
        · refine ⟨3, ⟨by decide, by decide⟩, ?_⟩
          refine WeakT.of ?_ ?_ (by kernel_rfl)
          · repeat' (first | exact TTle.junk _ _ | exact TTle.same _ | refine TTle.node ?_ ?_ | refine TTle.leaf ?_ | exact AVle.junk _ | exact AVle.rfl' rfl | exact AVle.nilS | exact AVle.nilB)
          · repeat' (first | exact OOle.none _ _ | exact OOle.same _ | refine OOle.node ?_ ?_ | exact OOle.leaf _ | exact OOle.gone _)
      · show HoldsT Try.prog _ (sh13true ls f t c a d tx 3) _
        repeat' (first
          | refine allProp_T ?_
          | exact trivial
          | (refine URun.id ?_; first
              | refine URun.nil ?_
              | refine URun.many tabs2 rfl rfl (by kernel_rfl) ?_ ?_
              | (refine URun.toCall 43 rfl ?_; first
                | refine URun.call tabs2 rfl rfl rfl rfl (k43 _ _ _) rfl rfl ?_ rfl ?_)
              | (refine URun.toCall 44 rfl ?_; first
                | refine URun.call tabs2 rfl rfl rfl rfl (k44 _ _ _) rfl rfl ?_ rfl ?_)
              | (refine URun.toCall 37 rfl ?_; first
                | refine URun.call tabs2 rfl rfl rfl rfl (k37 _ _ _) rfl rfl ?_ rfl ?_)
              | (refine URun.toCall 33 rfl ?_; first
                | refine URun.call tabs2 rfl rfl rfl rfl k33 rfl rfl ?_ rfl ?_)
              | refine URun.same tabs2 rfl rfl rfl ?_
              | refine URun.same2 tabs2 rfl rfl rfl ?_
              | refine URun.yes tabs2 rfl rfl (by decide) rfl ?_
              | refine URun.no tabs2 rfl rfl (by decide) rfl ?_
              | refine URun.yes tabs2 rfl rfl (fun h => h rfl) rfl ?_
              | refine URun.no tabs2 rfl rfl (fun h => h rfl) rfl ?_
              | refine URun.yes tabs2 rfl rfl (by omega) rfl ?_
              | refine URun.no tabs2 rfl rfl (by omega) rfl ?_
              | refine URun.split tabs2 rfl rfl rfl rfl (fun h => ?_) (fun h => ?_))
          | (refine TRun.id ?_; first
              | refine TRun.nil ?_
              | refine TRun.many rfl rfl (by kernel_rfl) ?_ ?_
              | (refine TRun.toCall 43 rfl ?_; first
                | refine TRun.call rfl rfl rfl rfl (k43 _ _ _) rfl rfl ?_ rfl ?_)
              | (refine TRun.toCall 44 rfl ?_; first
                | refine TRun.call rfl rfl rfl rfl (k44 _ _ _) rfl rfl ?_ rfl ?_)
              | (refine TRun.toCall 37 rfl ?_; first
                | refine TRun.call rfl rfl rfl rfl (k37 _ _ _) rfl rfl ?_ rfl ?_)
              | (refine TRun.toCall 33 rfl ?_; first
                | refine TRun.call rfl rfl rfl rfl k33 rfl rfl ?_ rfl ?_)
              | refine TRun.same rfl rfl rfl ?_
              | refine TRun.same2 rfl rfl rfl ?_
              | refine TRun.yes rfl rfl (by decide) rfl ?_
              | refine TRun.no rfl rfl (by decide) rfl ?_
              | refine TRun.yes rfl rfl (fun h => h rfl) rfl ?_
              | refine TRun.no rfl rfl (fun h => h rfl) rfl ?_
              | refine TRun.yes rfl rfl (by omega) rfl ?_
              | refine TRun.no rfl rfl (by omega) rfl ?_
              | refine TRun.split rfl rfl rfl rfl (fun h => ?_) (fun h => ?_))
          | (refine HoldsT.id ?_; first
              | refine HoldsT.seq ?_
              | refine HoldsT.regionU ?_
              | refine HoldsT.drawn tabs2 ?_
              | refine HoldsT.yes rfl ?_
              | refine HoldsT.no rfl ?_
              | refine HoldsT.cond rfl (fun h => ?_) (fun h => ?_)
              | refine HoldsT.block ?_
              | refine HoldsT.ret ?_
              | refine HoldsT.skip ?_
              | refine HoldsT.exit ?_)
          | (refine okTr_intro ?_; kernel_rfl)
          | exact absurd rfl h
          | exact rowG9 rfl rfl rfl
          | refine allProp_C ?_ ?_
          | refine And.intro ?_ ?_
          | omega
          | (show _ < List.length _; omega)
          | exact rowlen_intro rfl
          | exact lenEq_intro rfl
          | exact Nat.le_of_ble_eq_true rfl
          | (simp only [AV.rowlenD, AV.rowlen, AV.ncells, mulSz, toN, Option.map_some, Option.map_none, cutL, List.length_take, List.length_drop, List.length_append, List.length_cons, List.length_nil, List.length_set, Option.some.injEq, Int.reduceToNat] <;> omega))
        all_goals exact FinC.te (y := .bool true) rfl rfl trivial rfl
  · have hg' : (decide (0 < (ls.length : Int)) && lightL ls) = true → tx.length ≤ 50 → False := fun x y => hg ⟨x, y⟩
    generalize (decide (0 < (ls.length : Int)) && lightL ls) = g1 at *
    refine Pure.ofT tab2_ok Try.func13 rfl rfl [.tmp 12] rfl (by decide) rfl ⟨102, 7, (.node (.node (.node (.node (.node (.node (.node (.leaf (.slS ls)) (J 0)) (J 1)) (J 2)) (J 3)) (.node (.node (.node (.node (.leaf (.str tx)) (J 0)) (J 1)) (J 2)) (J 3))) (.node (.node (.node (.node (.node (.leaf (.int .i64 t)) (J 0)) (J 1)) (J 2)) (J 3)) (J 4))) (.node (.node (.node (.node (.node (.node (.leaf (.int .i64 f)) (J 0)) (J 1)) (J 2)) (J 3)) (.node (.node (.node (.node (.leaf (.bool true)) (J 0)) (J 1)) (J 2)) (J 3))) (.node (.node (.node (.node (.node (.leaf (.int .i64 c)) (J 0)) (J 1)) (J 2)) (J 3)) (J 4)))), (OO 7)⟩ (by kernel_rfl) (by kernel_rfl) ?_
    repeat' (first
      | refine allProp_T ?_
      | exact trivial
      | (refine URun.id ?_; first
          | refine URun.nil ?_
          | refine URun.many tabs2 rfl rfl (by kernel_rfl) ?_ ?_
          | (refine URun.toCall 34 rfl ?_; first
            | refine URun.call tabs2 rfl rfl rfl rfl p34 rfl rfl ?_ rfl ?_)
          | (refine URun.toCall 27 rfl ?_; first
            | refine URun.callB tabs2 rfl rfl rfl rfl k27 rfl rfl ?_ rfl rfl (fun h => ?_) (fun h => ?_))
          | refine URun.same tabs2 rfl rfl rfl ?_
          | refine URun.same2 tabs2 rfl rfl rfl ?_
          | refine URun.split tabs2 rfl rfl rfl rfl (fun h => ?_) (fun h => ?_))
      | (refine TRun.id ?_; first
          | refine TRun.nil ?_
          | refine TRun.many rfl rfl (by kernel_rfl) ?_ ?_
          | (refine TRun.toCall 34 rfl ?_; first
            | refine TRun.call rfl rfl rfl rfl p34 rfl rfl ?_ rfl ?_)
          | (refine TRun.toCall 27 rfl ?_; first
            | refine TRun.callB rfl rfl rfl rfl k27 rfl rfl ?_ rfl rfl (fun h => ?_) (fun h => ?_))
          | refine TRun.same rfl rfl rfl ?_
          | refine TRun.same2 rfl rfl rfl ?_
          | refine TRun.split rfl rfl rfl rfl (fun h => ?_) (fun h => ?_))
      | (refine HoldsT.id ?_; first
          | refine HoldsT.seq ?_
          | refine HoldsT.regionU ?_
          | refine HoldsT.drawn tabs2 ?_
          | refine HoldsT.yes rfl ?_
          | refine HoldsT.no rfl ?_
          | refine HoldsT.cond rfl (fun h => ?_) (fun h => ?_)
          | refine HoldsT.block ?_
          | refine HoldsT.ret ?_
          | refine HoldsT.skip ?_
          | refine HoldsT.exit ?_)
      | (refine okTr_intro ?_; kernel_rfl)
      | exact absurd rfl h
      | exact (hg' ‹_› (by omega)).elim
      | refine allProp_C ?_ ?_
      | refine And.intro ?_ ?_
      | omega
      | (show _ < List.length _; omega)
      | exact rowlen_intro rfl
      | exact lenEq_intro rfl
      | exact Nat.le_of_ble_eq_true rfl
      | (simp only [AV.rowlenD, AV.rowlen, AV.ncells, mulSz, toN, Option.map_some, Option.map_none, cutL, List.length_take, List.length_drop, List.length_append, List.length_cons, List.length_nil, List.length_set, Option.some.injEq, Int.reduceToNat] <;> omega))
    all_goals first | exact FinC.te (y := .bool true) rfl rfl trivial rfl | exact (hg' ‹_› (by omega)).elim

def sh13false (ls : List (List UInt8)) (f t c a d : Int) (tx : List UInt8) (y : Int) : TS := ⟨102, 7, (.node (.node (.node (.node (.node (.node (.node (.leaf (.slS ls)) (J 0)) (J 1)) (J 2)) (J 3)) (.node (.node (.node (.node (.leaf (.str tx)) (J 0)) (J 1)) (J 2)) (J 3))) (.node (.node (J 3) (.node (J 2) (.node (J 1) (.node (.leaf (.int .i64 3)) (J 0))))) (J 4))) (.node (.node (.node (J 3) (.node (J 2) (.node (J 1) (.node (.leaf (.own 57 3)) (J 0))))) (.node (.node (.node (.node (.leaf (.bool false)) (J 0)) (J 1)) (J 2)) (J 3))) (.node (.node (J 3) (.node (J 2) (.node (J 1) (.node (.leaf (.int .i64 y)) (J 0))))) (J 4)))), (.node (OO 6) (.node (.node (.node (OO 3) (.node (OO 2) (.node (OO 1) (.node (.leaf (some ⟨true, true, .slG 3 [.int .i64 f, .int .i64 t, .int .i64 c, .int .i64 (min a d), .int .i64 (max a d), .int .i64 (c.tmod 40), .int .i64 a, .int .i64 d, .int .i64 (c.tmod 5000)], 64⟩)) (OO 0))))) (OO 4)) (OO 5)))⟩
set_option maxRecDepth 10000 in
set_option maxHeartbeats 8000000 in
theorem p13_false (ls : List (List UInt8)) (f t c : Int) (tx : List UInt8) (hL : ls.length ≤ 140737488355328) (hB : ∀ n : Nat, (ls.getD n []).length ≤ 140737488355328) (hx : tx.length ≤ 140737488355328) (hf : inK .i64 f) (ht : inK .i64 t) (hc : inK .i64 c) : Pure Try.prog 13 [.slS ls, .int .i64 f, .int .i64 t, .int .i64 c, .str tx, .bool false] (.bool true) := by
  have k27 := p27 ls hL hB
  by_cases hg : (decide (0 < (ls.length : Int)) && lightL ls) = true ∧ tx.length ≤ 50
  · obtain ⟨hok, hx5⟩ := hg
    rw [hok] at k27
    obtain ⟨h0, hl, hr⟩ := light_len hok
    have hsum : sumL ls ≤ 1200 := by
      simp only [lightL, Bool.and_eq_true, decide_eq_true_eq] at hok
      exact hok.2.1.2
    have k42 := fun x (h : inK .i64 x) => p42 x ls.length h (by omega)
    have hpl : ∀ x : Int, 0 ≤ (if x.tmod ls.length < 0 then x.tmod ls.length + ls.length else x.tmod ls.length) ∧ (if x.tmod ls.length < 0 then x.tmod ls.length + ls.length else x.tmod ls.length) < ls.length := fun x => by
      have h1 := Int.tmod_lt_of_pos x h0
      have h2 := Int.lt_tmod_of_pos x h0
      split <;> omega
    have hp1 := hpl f
    have hp2 := hpl t
    have k42a := k42 f hf
    have k42b := k42 t ht
    generalize (if f.tmod ls.length < 0 then f.tmod ls.length + ls.length else f.tmod ls.length) = a at *
    generalize (if t.tmod ls.length < 0 then t.tmod ls.length + ls.length else t.tmod ls.length) = d at *
    have k43 := fun f t c => p43_false ls f t c tx (by omega) (fun n => by have := hr n; omega) (by omega)
    have k44 := fun f t c => p44_false ls f t c tx (by omega) (fun n => by have := hr n; omega) (by omega)
    have k37 : ∀ f t c, Pure Try.prog 37 [.agg [.int .i64 (besR ls f t c tx false).at', .slS (besR ls f t c tx false).old, .slS (besR ls f t c tx false).new], .agg [.int .i64 (besR ls f t c tx false).at', .slS (besR ls f t c tx false).old, .slS (besR ls f t c tx false).new]] (.bool true) := fun f t c => by
      have hb := bes_len ls f t c tx false
      have h := p37 (besR ls f t c tx false).at' (besR ls f t c tx false).at' (besR ls f t c tx false).old (besR ls f t c tx false).new (besR ls f t c tx false).old (besR ls f t c tx false).new (by omega) (by omega)
      rwa [decide_eq_true rfl, decide_eq_true rfl, decide_eq_true rfl] at h
    have hc2 : inK .i64 (c.tmod 40) ∧ inK .i64 (c.tmod 5000) := by
      have h1 := Int.tmod_lt_of_pos c (show (0 : Int) < 40 by omega)
      have h2 := Int.lt_tmod_of_pos c (show (0 : Int) < 40 by omega)
      have h3 := Int.tmod_lt_of_pos c (show (0 : Int) < 5000 by omega)
      have h4 := Int.lt_tmod_of_pos c (show (0 : Int) < 5000 by omega)
      exact ⟨⟨by omega, by omega⟩, ⟨by omega, by omega⟩⟩
    have k33 := p33 ls (by omega) (by omega)
    have hsz : 0 < (sizeL ls : Int) := by unfold sizeL; omega
    refine Pure.ofT tab2_ok Try.func13 rfl rfl [.tmp 12] rfl (by decide) rfl ⟨102, 7, (.node (.node (.node (.node (.node (.node (.node (.leaf (.slS ls)) (J 0)) (J 1)) (J 2)) (J 3)) (.node (.node (.node (.node (.leaf (.str tx)) (J 0)) (J 1)) (J 2)) (J 3))) (.node (.node (.node (.node (.node (.leaf (.int .i64 t)) (J 0)) (J 1)) (J 2)) (J 3)) (J 4))) (.node (.node (.node (.node (.node (.node (.leaf (.int .i64 f)) (J 0)) (J 1)) (J 2)) (J 3)) (.node (.node (.node (.node (.leaf (.bool false)) (J 0)) (J 1)) (J 2)) (J 3))) (.node (.node (.node (.node (.node (.leaf (.int .i64 c)) (J 0)) (J 1)) (J 2)) (J 3)) (J 4)))), (OO 7)⟩ (by kernel_rfl) (by kernel_rfl) ?_
    repeat' (first
      | refine allProp_T ?_
      | exact trivial
      | (refine URun.id ?_; first
          | refine URun.nil ?_
          | refine URun.many tabs2 rfl rfl (by kernel_rfl) ?_ ?_
          | (refine URun.toCall 34 rfl ?_; first
            | refine URun.call tabs2 rfl rfl rfl rfl p34 rfl rfl ?_ rfl ?_)
          | (refine URun.toCall 27 rfl ?_; first
            | refine URun.call tabs2 rfl rfl rfl rfl k27 rfl rfl ?_ rfl ?_)
          | (refine URun.toCall 42 rfl ?_; first
            | refine URun.call tabs2 rfl rfl rfl rfl k42a rfl rfl ?_ rfl ?_
            | refine URun.call tabs2 rfl rfl rfl rfl k42b rfl rfl ?_ rfl ?_)
          | refine URun.same tabs2 rfl rfl rfl ?_
          | refine URun.same2 tabs2 rfl rfl rfl ?_
          | refine URun.yes tabs2 rfl rfl (by omega) rfl ?_
          | refine URun.no tabs2 rfl rfl (by omega) rfl ?_
          | refine URun.split tabs2 rfl rfl rfl rfl (fun h => ?_) (fun h => ?_))
      | (refine TRun.id ?_; first
          | refine TRun.nil ?_
          | refine TRun.many rfl rfl (by kernel_rfl) ?_ ?_
          | (refine TRun.toCall 34 rfl ?_; first
            | refine TRun.call rfl rfl rfl rfl p34 rfl rfl ?_ rfl ?_)
          | (refine TRun.toCall 27 rfl ?_; first
            | refine TRun.call rfl rfl rfl rfl k27 rfl rfl ?_ rfl ?_)
          | (refine TRun.toCall 42 rfl ?_; first
            | refine TRun.call rfl rfl rfl rfl k42a rfl rfl ?_ rfl ?_
            | refine TRun.call rfl rfl rfl rfl k42b rfl rfl ?_ rfl ?_)
          | refine TRun.same rfl rfl rfl ?_
          | refine TRun.same2 rfl rfl rfl ?_
          | refine TRun.yes rfl rfl (by omega) rfl ?_
          | refine TRun.no rfl rfl (by omega) rfl ?_
          | refine TRun.split rfl rfl rfl rfl (fun h => ?_) (fun h => ?_))
      | (refine HoldsT.id ?_; first
          | refine HoldsT.seq ?_
          | refine HoldsT.regionU ?_
          | refine HoldsT.drawn tabs2 ?_
          | refine HoldsT.yes rfl ?_
          | refine HoldsT.no rfl ?_
          | refine HoldsT.cond rfl (fun h => ?_) (fun h => ?_)
          | refine HoldsT.block ?_
          | refine HoldsT.ret ?_
          | refine HoldsT.skip ?_
          | refine HoldsT.exit ?_)
      | (refine okTr_intro ?_; kernel_rfl)
      | exact absurd rfl h
      | exact rowG9 rfl rfl rfl
      | refine allProp_C ?_ ?_
      | refine And.intro ?_ ?_
      | omega
      | (show _ < List.length _; omega)
      | exact rowlen_intro rfl
      | exact lenEq_intro rfl
      | exact Nat.le_of_ble_eq_true rfl
      | (simp only [AV.rowlenD, AV.rowlen, AV.ncells, mulSz, toN, Option.map_some, Option.map_none, cutL, List.length_take, List.length_drop, List.length_append, List.length_cons, List.length_nil, List.length_set, Option.some.injEq, Int.reduceToNat] <;> omega))
    refine HoldsT.loop (fun y : Int => sh13false ls f t c a d tx y) (fun y => (3 - y).toNat) (fun y => y = 0 ∨ y = 1 ∨ y = 2 ∨ y = 3) 0 ?_ (.inl rfl) (fun _ => by kernel_rfl) ?_
    · refine WeakT.of ?_ ?_ (by kernel_rfl)
      · repeat' (first | exact TTle.junk _ _ | exact TTle.same _ | refine TTle.node ?_ ?_ | refine TTle.leaf ?_ | exact AVle.junk _ | exact AVle.rfl' rfl | exact AVle.nilS | exact AVle.nilB)
      · repeat' (first | exact OOle.none _ _ | exact OOle.same _ | refine OOle.node ?_ ?_ | exact OOle.leaf _ | exact OOle.gone _)
    · intro y hy
      rcases hy with rfl | rfl | rfl | rfl
      · show HoldsT Try.prog _ (sh13false ls f t c a d tx 0) _
        repeat' (first
          | refine allProp_T ?_
          | exact trivial
          | (refine URun.id ?_; first
              | refine URun.nil ?_
              | refine URun.many tabs2 rfl rfl (by kernel_rfl) ?_ ?_
              | (refine URun.toCall 43 rfl ?_; first
                | refine URun.call tabs2 rfl rfl rfl rfl (k43 _ _ _) rfl rfl ?_ rfl ?_)
              | (refine URun.toCall 44 rfl ?_; first
                | refine URun.call tabs2 rfl rfl rfl rfl (k44 _ _ _) rfl rfl ?_ rfl ?_)
              | (refine URun.toCall 37 rfl ?_; first
                | refine URun.call tabs2 rfl rfl rfl rfl (k37 _ _ _) rfl rfl ?_ rfl ?_)
              | (refine URun.toCall 33 rfl ?_; first
                | refine URun.call tabs2 rfl rfl rfl rfl k33 rfl rfl ?_ rfl ?_)
              | refine URun.same tabs2 rfl rfl rfl ?_
              | refine URun.same2 tabs2 rfl rfl rfl ?_
              | refine URun.yes tabs2 rfl rfl (by decide) rfl ?_
              | refine URun.no tabs2 rfl rfl (by decide) rfl ?_
              | refine URun.yes tabs2 rfl rfl (fun h => h rfl) rfl ?_
              | refine URun.no tabs2 rfl rfl (fun h => h rfl) rfl ?_
              | refine URun.yes tabs2 rfl rfl (by omega) rfl ?_
              | refine URun.no tabs2 rfl rfl (by omega) rfl ?_
              | refine URun.split tabs2 rfl rfl rfl rfl (fun h => ?_) (fun h => ?_))
          | (refine TRun.id ?_; first
              | refine TRun.nil ?_
              | refine TRun.many rfl rfl (by kernel_rfl) ?_ ?_
              | (refine TRun.toCall 43 rfl ?_; first
                | refine TRun.call rfl rfl rfl rfl (k43 _ _ _) rfl rfl ?_ rfl ?_)
              | (refine TRun.toCall 44 rfl ?_; first
                | refine TRun.call rfl rfl rfl rfl (k44 _ _ _) rfl rfl ?_ rfl ?_)
              | (refine TRun.toCall 37 rfl ?_; first
                | refine TRun.call rfl rfl rfl rfl (k37 _ _ _) rfl rfl ?_ rfl ?_)
              | (refine TRun.toCall 33 rfl ?_; first
                | refine TRun.call rfl rfl rfl rfl k33 rfl rfl ?_ rfl ?_)
              | refine TRun.same rfl rfl rfl ?_
              | refine TRun.same2 rfl rfl rfl ?_
              | refine TRun.yes rfl rfl (by decide) rfl ?_
              | refine TRun.no rfl rfl (by decide) rfl ?_
              | refine TRun.yes rfl rfl (fun h => h rfl) rfl ?_
              | refine TRun.no rfl rfl (fun h => h rfl) rfl ?_
              | refine TRun.yes rfl rfl (by omega) rfl ?_
              | refine TRun.no rfl rfl (by omega) rfl ?_
              | refine TRun.split rfl rfl rfl rfl (fun h => ?_) (fun h => ?_))
          | (refine HoldsT.id ?_; first
              | refine HoldsT.seq ?_
              | refine HoldsT.regionU ?_
              | refine HoldsT.drawn tabs2 ?_
              | refine HoldsT.yes rfl ?_
              | refine HoldsT.no rfl ?_
              | refine HoldsT.cond rfl (fun h => ?_) (fun h => ?_)
              | refine HoldsT.block ?_
              | refine HoldsT.ret ?_
              | refine HoldsT.skip ?_
              | refine HoldsT.exit ?_)
          | (refine okTr_intro ?_; kernel_rfl)
          | exact absurd rfl h
          | exact rowG9 rfl rfl rfl
          | refine allProp_C ?_ ?_
          | refine And.intro ?_ ?_
          | omega
          | (show _ < List.length _; omega)
          | exact rowlen_intro rfl
          | exact lenEq_intro rfl
          | exact Nat.le_of_ble_eq_true rfl
          | (simp only [AV.rowlenD, AV.rowlen, AV.ncells, mulSz, toN, Option.map_some, Option.map_none, cutL, List.length_take, List.length_drop, List.length_append, List.length_cons, List.length_nil, List.length_set, Option.some.injEq, Int.reduceToNat] <;> omega))
        · refine ⟨1, ⟨by decide, by decide⟩, ?_⟩
          refine WeakT.of ?_ ?_ (by kernel_rfl)
          · repeat' (first | exact TTle.junk _ _ | exact TTle.same _ | refine TTle.node ?_ ?_ | refine TTle.leaf ?_ | exact AVle.junk _ | exact AVle.rfl' rfl | exact AVle.nilS | exact AVle.nilB)
          · repeat' (first | exact OOle.none _ _ | exact OOle.same _ | refine OOle.node ?_ ?_ | exact OOle.leaf _ | exact OOle.gone _)
      · show HoldsT Try.prog _ (sh13false ls f t c a d tx 1) _
        repeat' (first
          | refine allProp_T ?_
          | exact trivial
          | (refine URun.id ?_; first
              | refine URun.nil ?_
              | refine URun.many tabs2 rfl rfl (by kernel_rfl) ?_ ?_
              | (refine URun.toCall 43 rfl ?_; first
                | refine URun.call tabs2 rfl rfl rfl rfl (k43 _ _ _) rfl rfl ?_ rfl ?_)
              | (refine URun.toCall 44 rfl ?_; first
                | refine URun.call tabs2 rfl rfl rfl rfl (k44 _ _ _) rfl rfl ?_ rfl ?_)
              | (refine URun.toCall 37 rfl ?_; first
                | refine URun.call tabs2 rfl rfl rfl rfl (k37 _ _ _) rfl rfl ?_ rfl ?_)
              | (refine URun.toCall 33 rfl ?_; first
                | refine URun.call tabs2 rfl rfl rfl rfl k33 rfl rfl ?_ rfl ?_)
              | refine URun.same tabs2 rfl rfl rfl ?_
              | refine URun.same2 tabs2 rfl rfl rfl ?_
              | refine URun.yes tabs2 rfl rfl (by decide) rfl ?_
              | refine URun.no tabs2 rfl rfl (by decide) rfl ?_
              | refine URun.yes tabs2 rfl rfl (fun h => h rfl) rfl ?_
              | refine URun.no tabs2 rfl rfl (fun h => h rfl) rfl ?_
              | refine URun.yes tabs2 rfl rfl (by omega) rfl ?_
              | refine URun.no tabs2 rfl rfl (by omega) rfl ?_
              | refine URun.split tabs2 rfl rfl rfl rfl (fun h => ?_) (fun h => ?_))
          | (refine TRun.id ?_; first
              | refine TRun.nil ?_
              | refine TRun.many rfl rfl (by kernel_rfl) ?_ ?_
              | (refine TRun.toCall 43 rfl ?_; first
                | refine TRun.call rfl rfl rfl rfl (k43 _ _ _) rfl rfl ?_ rfl ?_)
              | (refine TRun.toCall 44 rfl ?_; first
                | refine TRun.call rfl rfl rfl rfl (k44 _ _ _) rfl rfl ?_ rfl ?_)
              | (refine TRun.toCall 37 rfl ?_; first
                | refine TRun.call rfl rfl rfl rfl (k37 _ _ _) rfl rfl ?_ rfl ?_)
              | (refine TRun.toCall 33 rfl ?_; first
                | refine TRun.call rfl rfl rfl rfl k33 rfl rfl ?_ rfl ?_)
              | refine TRun.same rfl rfl rfl ?_
              | refine TRun.same2 rfl rfl rfl ?_
              | refine TRun.yes rfl rfl (by decide) rfl ?_
              | refine TRun.no rfl rfl (by decide) rfl ?_
              | refine TRun.yes rfl rfl (fun h => h rfl) rfl ?_
              | refine TRun.no rfl rfl (fun h => h rfl) rfl ?_
              | refine TRun.yes rfl rfl (by omega) rfl ?_
              | refine TRun.no rfl rfl (by omega) rfl ?_
              | refine TRun.split rfl rfl rfl rfl (fun h => ?_) (fun h => ?_))
          | (refine HoldsT.id ?_; first
              | refine HoldsT.seq ?_
              | refine HoldsT.regionU ?_
              | refine HoldsT.drawn tabs2 ?_
              | refine HoldsT.yes rfl ?_
              | refine HoldsT.no rfl ?_
              | refine HoldsT.cond rfl (fun h => ?_) (fun h => ?_)
              | refine HoldsT.block ?_
              | refine HoldsT.ret ?_
              | refine HoldsT.skip ?_
              | refine HoldsT.exit ?_)
          | (refine okTr_intro ?_; kernel_rfl)
          | exact absurd rfl h
          | exact rowG9 rfl rfl rfl
          | refine allProp_C ?_ ?_
          | refine And.intro ?_ ?_
          | omega
          | (show _ < List.length _; omega)
          | exact rowlen_intro rfl
          | exact lenEq_intro rfl
          | exact Nat.le_of_ble_eq_true rfl
          | (simp only [AV.rowlenD, AV.rowlen, AV.ncells, mulSz, toN, Option.map_some, Option.map_none, cutL, List.length_take, List.length_drop, List.length_append, List.length_cons, List.length_nil, List.length_set, Option.some.injEq, Int.reduceToNat] <;> omega))
        · refine ⟨2, ⟨by decide, by decide⟩, ?_⟩
          refine WeakT.of ?_ ?_ (by kernel_rfl)
          · repeat' (first | exact TTle.junk _ _ | exact TTle.same _ | refine TTle.node ?_ ?_ | refine TTle.leaf ?_ | exact AVle.junk _ | exact AVle.rfl' rfl | exact AVle.nilS | exact AVle.nilB)
          · repeat' (first | exact OOle.none _ _ | exact OOle.same _ | refine OOle.node ?_ ?_ | exact OOle.leaf _ | exact OOle.gone _)
      · show HoldsT Try.prog _ (sh13false ls f t c a d tx 2) _
        repeat' (first
          | refine allProp_T ?_
          | exact trivial
          | (refine URun.id ?_; first
              | refine URun.nil ?_
              | refine URun.many tabs2 rfl rfl (by kernel_rfl) ?_ ?_
              | (refine URun.toCall 43 rfl ?_; first
                | refine URun.call tabs2 rfl rfl rfl rfl (k43 _ _ _) rfl rfl ?_ rfl ?_)
              | (refine URun.toCall 44 rfl ?_; first
                | refine URun.call tabs2 rfl rfl rfl rfl (k44 _ _ _) rfl rfl ?_ rfl ?_)
              | (refine URun.toCall 37 rfl ?_; first
                | refine URun.call tabs2 rfl rfl rfl rfl (k37 _ _ _) rfl rfl ?_ rfl ?_)
              | (refine URun.toCall 33 rfl ?_; first
                | refine URun.call tabs2 rfl rfl rfl rfl k33 rfl rfl ?_ rfl ?_)
              | refine URun.same tabs2 rfl rfl rfl ?_
              | refine URun.same2 tabs2 rfl rfl rfl ?_
              | refine URun.yes tabs2 rfl rfl (by decide) rfl ?_
              | refine URun.no tabs2 rfl rfl (by decide) rfl ?_
              | refine URun.yes tabs2 rfl rfl (fun h => h rfl) rfl ?_
              | refine URun.no tabs2 rfl rfl (fun h => h rfl) rfl ?_
              | refine URun.yes tabs2 rfl rfl (by omega) rfl ?_
              | refine URun.no tabs2 rfl rfl (by omega) rfl ?_
              | refine URun.split tabs2 rfl rfl rfl rfl (fun h => ?_) (fun h => ?_))
          | (refine TRun.id ?_; first
              | refine TRun.nil ?_
              | refine TRun.many rfl rfl (by kernel_rfl) ?_ ?_
              | (refine TRun.toCall 43 rfl ?_; first
                | refine TRun.call rfl rfl rfl rfl (k43 _ _ _) rfl rfl ?_ rfl ?_)
              | (refine TRun.toCall 44 rfl ?_; first
                | refine TRun.call rfl rfl rfl rfl (k44 _ _ _) rfl rfl ?_ rfl ?_)
              | (refine TRun.toCall 37 rfl ?_; first
                | refine TRun.call rfl rfl rfl rfl (k37 _ _ _) rfl rfl ?_ rfl ?_)
              | (refine TRun.toCall 33 rfl ?_; first
                | refine TRun.call rfl rfl rfl rfl k33 rfl rfl ?_ rfl ?_)
              | refine TRun.same rfl rfl rfl ?_
              | refine TRun.same2 rfl rfl rfl ?_
              | refine TRun.yes rfl rfl (by decide) rfl ?_
              | refine TRun.no rfl rfl (by decide) rfl ?_
              | refine TRun.yes rfl rfl (fun h => h rfl) rfl ?_
              | refine TRun.no rfl rfl (fun h => h rfl) rfl ?_
              | refine TRun.yes rfl rfl (by omega) rfl ?_
              | refine TRun.no rfl rfl (by omega) rfl ?_
              | refine TRun.split rfl rfl rfl rfl (fun h => ?_) (fun h => ?_))
          | (refine HoldsT.id ?_; first
              | refine HoldsT.seq ?_
              | refine HoldsT.regionU ?_
              | refine HoldsT.drawn tabs2 ?_
              | refine HoldsT.yes rfl ?_
              | refine HoldsT.no rfl ?_
              | refine HoldsT.cond rfl (fun h => ?_) (fun h => ?_)
              | refine HoldsT.block ?_
              | refine HoldsT.ret ?_
              | refine HoldsT.skip ?_
              | refine HoldsT.exit ?_)
          | (refine okTr_intro ?_; kernel_rfl)
          | exact absurd rfl h
          | exact rowG9 rfl rfl rfl
          | refine allProp_C ?_ ?_
          | refine And.intro ?_ ?_
          | omega
          | (show _ < List.length _; omega)
          | exact rowlen_intro rfl
          | exact lenEq_intro rfl
          | exact Nat.le_of_ble_eq_true rfl
          | (simp only [AV.rowlenD, AV.rowlen, AV.ncells, mulSz, toN, Option.map_some, Option.map_none, cutL, List.length_take, List.length_drop, List.length_append, List.length_cons, List.length_nil, List.length_set, Option.some.injEq, Int.reduceToNat] <;> omega))
        · refine ⟨3, ⟨by decide, by decide⟩, ?_⟩
          refine WeakT.of ?_ ?_ (by kernel_rfl)
          · repeat' (first | exact TTle.junk _ _ | exact TTle.same _ | refine TTle.node ?_ ?_ | refine TTle.leaf ?_ | exact AVle.junk _ | exact AVle.rfl' rfl | exact AVle.nilS | exact AVle.nilB)
          · repeat' (first | exact OOle.none _ _ | exact OOle.same _ | refine OOle.node ?_ ?_ | exact OOle.leaf _ | exact OOle.gone _)
      · show HoldsT Try.prog _ (sh13false ls f t c a d tx 3) _
        repeat' (first
          | refine allProp_T ?_
          | exact trivial
          | (refine URun.id ?_; first
              | refine URun.nil ?_
              | refine URun.many tabs2 rfl rfl (by kernel_rfl) ?_ ?_
              | (refine URun.toCall 43 rfl ?_; first
                | refine URun.call tabs2 rfl rfl rfl rfl (k43 _ _ _) rfl rfl ?_ rfl ?_)
              | (refine URun.toCall 44 rfl ?_; first
                | refine URun.call tabs2 rfl rfl rfl rfl (k44 _ _ _) rfl rfl ?_ rfl ?_)
              | (refine URun.toCall 37 rfl ?_; first
                | refine URun.call tabs2 rfl rfl rfl rfl (k37 _ _ _) rfl rfl ?_ rfl ?_)
              | (refine URun.toCall 33 rfl ?_; first
                | refine URun.call tabs2 rfl rfl rfl rfl k33 rfl rfl ?_ rfl ?_)
              | refine URun.same tabs2 rfl rfl rfl ?_
              | refine URun.same2 tabs2 rfl rfl rfl ?_
              | refine URun.yes tabs2 rfl rfl (by decide) rfl ?_
              | refine URun.no tabs2 rfl rfl (by decide) rfl ?_
              | refine URun.yes tabs2 rfl rfl (fun h => h rfl) rfl ?_
              | refine URun.no tabs2 rfl rfl (fun h => h rfl) rfl ?_
              | refine URun.yes tabs2 rfl rfl (by omega) rfl ?_
              | refine URun.no tabs2 rfl rfl (by omega) rfl ?_
              | refine URun.split tabs2 rfl rfl rfl rfl (fun h => ?_) (fun h => ?_))
          | (refine TRun.id ?_; first
              | refine TRun.nil ?_
              | refine TRun.many rfl rfl (by kernel_rfl) ?_ ?_
              | (refine TRun.toCall 43 rfl ?_; first
                | refine TRun.call rfl rfl rfl rfl (k43 _ _ _) rfl rfl ?_ rfl ?_)
              | (refine TRun.toCall 44 rfl ?_; first
                | refine TRun.call rfl rfl rfl rfl (k44 _ _ _) rfl rfl ?_ rfl ?_)
              | (refine TRun.toCall 37 rfl ?_; first
                | refine TRun.call rfl rfl rfl rfl (k37 _ _ _) rfl rfl ?_ rfl ?_)
              | (refine TRun.toCall 33 rfl ?_; first
                | refine TRun.call rfl rfl rfl rfl k33 rfl rfl ?_ rfl ?_)
              | refine TRun.same rfl rfl rfl ?_
              | refine TRun.same2 rfl rfl rfl ?_
              | refine TRun.yes rfl rfl (by decide) rfl ?_
              | refine TRun.no rfl rfl (by decide) rfl ?_
              | refine TRun.yes rfl rfl (fun h => h rfl) rfl ?_
              | refine TRun.no rfl rfl (fun h => h rfl) rfl ?_
              | refine TRun.yes rfl rfl (by omega) rfl ?_
              | refine TRun.no rfl rfl (by omega) rfl ?_
              | refine TRun.split rfl rfl rfl rfl (fun h => ?_) (fun h => ?_))
          | (refine HoldsT.id ?_; first
              | refine HoldsT.seq ?_
              | refine HoldsT.regionU ?_
              | refine HoldsT.drawn tabs2 ?_
              | refine HoldsT.yes rfl ?_
              | refine HoldsT.no rfl ?_
              | refine HoldsT.cond rfl (fun h => ?_) (fun h => ?_)
              | refine HoldsT.block ?_
              | refine HoldsT.ret ?_
              | refine HoldsT.skip ?_
              | refine HoldsT.exit ?_)
          | (refine okTr_intro ?_; kernel_rfl)
          | exact absurd rfl h
          | exact rowG9 rfl rfl rfl
          | refine allProp_C ?_ ?_
          | refine And.intro ?_ ?_
          | omega
          | (show _ < List.length _; omega)
          | exact rowlen_intro rfl
          | exact lenEq_intro rfl
          | exact Nat.le_of_ble_eq_true rfl
          | (simp only [AV.rowlenD, AV.rowlen, AV.ncells, mulSz, toN, Option.map_some, Option.map_none, cutL, List.length_take, List.length_drop, List.length_append, List.length_cons, List.length_nil, List.length_set, Option.some.injEq, Int.reduceToNat] <;> omega))
        all_goals exact FinC.te (y := .bool true) rfl rfl trivial rfl
  · have hg' : (decide (0 < (ls.length : Int)) && lightL ls) = true → tx.length ≤ 50 → False := fun x y => hg ⟨x, y⟩
    generalize (decide (0 < (ls.length : Int)) && lightL ls) = g1 at *
    refine Pure.ofT tab2_ok Try.func13 rfl rfl [.tmp 12] rfl (by decide) rfl ⟨102, 7, (.node (.node (.node (.node (.node (.node (.node (.leaf (.slS ls)) (J 0)) (J 1)) (J 2)) (J 3)) (.node (.node (.node (.node (.leaf (.str tx)) (J 0)) (J 1)) (J 2)) (J 3))) (.node (.node (.node (.node (.node (.leaf (.int .i64 t)) (J 0)) (J 1)) (J 2)) (J 3)) (J 4))) (.node (.node (.node (.node (.node (.node (.leaf (.int .i64 f)) (J 0)) (J 1)) (J 2)) (J 3)) (.node (.node (.node (.node (.leaf (.bool false)) (J 0)) (J 1)) (J 2)) (J 3))) (.node (.node (.node (.node (.node (.leaf (.int .i64 c)) (J 0)) (J 1)) (J 2)) (J 3)) (J 4)))), (OO 7)⟩ (by kernel_rfl) (by kernel_rfl) ?_
    repeat' (first
      | refine allProp_T ?_
      | exact trivial
      | (refine URun.id ?_; first
          | refine URun.nil ?_
          | refine URun.many tabs2 rfl rfl (by kernel_rfl) ?_ ?_
          | (refine URun.toCall 34 rfl ?_; first
            | refine URun.call tabs2 rfl rfl rfl rfl p34 rfl rfl ?_ rfl ?_)
          | (refine URun.toCall 27 rfl ?_; first
            | refine URun.callB tabs2 rfl rfl rfl rfl k27 rfl rfl ?_ rfl rfl (fun h => ?_) (fun h => ?_))
          | refine URun.same tabs2 rfl rfl rfl ?_
          | refine URun.same2 tabs2 rfl rfl rfl ?_
          | refine URun.split tabs2 rfl rfl rfl rfl (fun h => ?_) (fun h => ?_))
      | (refine TRun.id ?_; first
          | refine TRun.nil ?_
          | refine TRun.many rfl rfl (by kernel_rfl) ?_ ?_
          | (refine TRun.toCall 34 rfl ?_; first
            | refine TRun.call rfl rfl rfl rfl p34 rfl rfl ?_ rfl ?_)
          | (refine TRun.toCall 27 rfl ?_; first
            | refine TRun.callB rfl rfl rfl rfl k27 rfl rfl ?_ rfl rfl (fun h => ?_) (fun h => ?_))
          | refine TRun.same rfl rfl rfl ?_
          | refine TRun.same2 rfl rfl rfl ?_
          | refine TRun.split rfl rfl rfl rfl (fun h => ?_) (fun h => ?_))
      | (refine HoldsT.id ?_; first
          | refine HoldsT.seq ?_
          | refine HoldsT.regionU ?_
          | refine HoldsT.drawn tabs2 ?_
          | refine HoldsT.yes rfl ?_
          | refine HoldsT.no rfl ?_
          | refine HoldsT.cond rfl (fun h => ?_) (fun h => ?_)
          | refine HoldsT.block ?_
          | refine HoldsT.ret ?_
          | refine HoldsT.skip ?_
          | refine HoldsT.exit ?_)
      | (refine okTr_intro ?_; kernel_rfl)
      | exact absurd rfl h
      | exact (hg' ‹_› (by omega)).elim
      | refine allProp_C ?_ ?_
      | refine And.intro ?_ ?_
      | omega
      | (show _ < List.length _; omega)
      | exact rowlen_intro rfl
      | exact lenEq_intro rfl
      | exact Nat.le_of_ble_eq_true rfl
      | (simp only [AV.rowlenD, AV.rowlen, AV.ncells, mulSz, toN, Option.map_some, Option.map_none, cutL, List.length_take, List.length_drop, List.length_append, List.length_cons, List.length_nil, List.length_set, Option.some.injEq, Int.reduceToNat] <;> omega))
    all_goals first | exact FinC.te (y := .bool true) rfl rfl trivial rfl | exact (hg' ‹_› (by omega)).elim

theorem p13 (ls : List (List UInt8)) (f t c : Int) (tx : List UInt8) (b : Bool) (hL : ls.length ≤ 140737488355328) (hB : ∀ n : Nat, (ls.getD n []).length ≤ 140737488355328) (hx : tx.length ≤ 140737488355328) (hf : inK .i64 f) (ht : inK .i64 t) (hc : inK .i64 c) : Pure Try.prog 13 [.slS ls, .int .i64 f, .int .i64 t, .int .i64 c, .str tx, .bool b] (.bool true) := by
  cases b with
  | true => exact p13_true ls f t c tx hL hB hx hf ht hc
  | false => exact p13_false ls f t c tx hL hB hx hf ht hc

end Go.Proofs.Ytefbgdnobnemkaa.AM
