/-
  Lines that may be asked.
-/
import Derived.Test.YtefbgdnobnemkaaF5
namespace Go.Proofs.Ytefbgdnobnemkaa.AM
open Go Go.RowKit

def sumL (ls : List (List UInt8)) : Nat := (ls.map List.length).sum
def noLF (l : List UInt8) : Bool := l.all fun c => c != 10
def lightL (ls : List (List UInt8)) : Bool := decide (ls.length ≤ 40) && decide (sumL ls ≤ 1200) && ls.all noLF

theorem sumL_take (ls : List (List UInt8)) (i : Nat) (h : i < ls.length) : sumL (ls.take (i + 1)) = sumL (ls.take i) + (ls.getD i []).length := by
  unfold sumL
  rw [List.take_add_one, List.getElem?_eq_getElem h, List.map_append, List.sum_append, Option.toList_some, List.map_cons, List.map_nil, List.sum_cons, List.sum_nil]
  have : ls.getD i [] = ls[i] := by simp [h]
  rw [this]; rfl
theorem sumL_le (ls : List (List UInt8)) (i : Nat) : sumL (ls.take i) ≤ sumL ls := by
  have : sumL ls = sumL (ls.take i) + sumL (ls.drop i) := by
    unfold sumL
    rw [← List.sum_append, ← List.map_append, List.take_append_drop]
  omega
theorem all_take {α : Type} (p : α → Bool) (d : α) (l : List α) (i : Nat) (h : i < l.length) (h1 : (l.take i).all p = true) (h2 : p (l.getD i d) = true) : (l.take (i + 1)).all p = true := by
  rw [List.take_add_one, List.getElem?_eq_getElem h, List.all_append, h1]
  simpa [h] using h2
theorem all_not {α : Type} (p : α → Bool) (d : α) (l : List α) (i : Nat) (h : i < l.length) (h2 : p (l.getD i d) = false) : l.all p = false := by
  rw [List.all_eq_false]
  refine ⟨l[i], List.getElem_mem h, ?_⟩
  have : l.getD i d = l[i] := by simp [h]
  rw [this] at h2
  simp [h2]
theorem byte_ne {c : UInt8} (h : ¬ ((c.toNat : Int) = 10)) : (c != 10) = true := by
  simp only [bne_iff_ne, ne_eq]
  intro e; subst e; exact h rfl
theorem byte_eq {c : UInt8} (h : (c.toNat : Int) = 10) : (c != 10) = false := by
  have : c.toNat = 10 := by omega
  have : c = 10 := by
    apply UInt8.toNat_inj.1
    rw [this]; rfl
  subst this; rfl

def sh31a (ls : List (List UInt8)) (n i : Int) : AState := ⟨.slS ls :: .junk :: .junk :: .int .i64 n :: .int .i64 i :: .junk :: .junk :: .junk :: .junk :: .junk :: .junk :: .junk :: .junk :: .junk :: .junk :: .junk :: .junk :: .junk :: .junk :: .junk :: .junk :: .junk :: .junk :: .junk :: .junk :: .junk :: .junk :: .junk :: .junk :: .junk :: .junk :: .junk :: .junk :: .junk :: .junk :: .junk :: .junk :: .junk :: .junk :: .junk :: [], none :: none :: none :: none :: none :: none :: none :: none :: none :: none :: none :: none :: none :: none :: none :: none :: none :: none :: none :: none :: none :: none :: none :: none :: none :: none :: none :: none :: none :: none :: none :: none :: none :: none :: none :: none :: none :: none :: none :: none :: []⟩
def sh31b (ls : List (List UInt8)) (n i k : Int) : AState := ⟨.slS ls :: .junk :: .junk :: .int .i64 n :: .int .i64 i :: .int .i64 k :: .junk :: .junk :: .junk :: .junk :: .junk :: .junk :: .junk :: .junk :: .junk :: .junk :: .junk :: .junk :: .junk :: .junk :: .junk :: .junk :: .junk :: .junk :: .junk :: .junk :: .junk :: .junk :: .junk :: .junk :: .junk :: .junk :: .junk :: .junk :: .junk :: .junk :: .junk :: .junk :: .junk :: .junk :: [], none :: none :: none :: none :: none :: none :: none :: none :: none :: none :: none :: none :: none :: none :: none :: none :: none :: none :: none :: none :: none :: none :: none :: none :: none :: none :: none :: none :: none :: none :: none :: none :: none :: none :: none :: none :: none :: none :: none :: none :: []⟩

set_option maxRecDepth 10000 in
set_option maxHeartbeats 4000000 in
theorem p31 (ls : List (List UInt8)) (hL : ls.length ≤ 140737488355328) (hB : ∀ n : Nat, (ls.getD n []).length ≤ 140737488355328) : Pure Try.prog 31 [.slS ls] (.bool (lightL ls)) := by
  refine Pure.ofC tab_ok Try.func31 rfl rfl [.tmp 2] rfl (by decide) rfl ?_
  repeat' (first
    | exact trivial
    | exact absurd rfl h
    | exact ⟨trivial, of_decide_eq_true rfl⟩
    | exact Nat.le_of_ble_eq_true rfl
    | (refine okTr_intro ?_; kernel_rfl)
    | refine Holds.seq ?_
    | refine Holds.region tabs ?_
    | refine Holds.drawn tabs ?_
    | refine Holds.ret ?_
    | refine Holds.skip ?_
    | refine Holds.exit ?_
    | refine Holds.block ?_
    | refine Holds.cond_true rfl ?_
    | refine Holds.cond_false rfl ?_
    | refine Holds.cond rfl (fun h => ?_) (fun h => ?_)
    | refine ARun.nil ?_
    | refine ARun.skip rfl (s1 := ⟨_::_::_::_::_::_::_::_::_::_::_::_::_::_::_::_::_::_::_::_::_::_::_::_::_::_::_::_::_::_::_::_::_::_::_::_::_::_::_::_::[],_::_::_::_::_::_::_::_::_::_::_::_::_::_::_::_::_::_::_::_::_::_::_::_::_::_::_::_::_::_::_::_::_::_::_::_::_::_::_::_::[]⟩) rfl ?_
    | refine ARun.valF rfl rfl rfl (s1 := ⟨_::_::_::_::_::_::_::_::_::_::_::_::_::_::_::_::_::_::_::_::_::_::_::_::_::_::_::_::_::_::_::_::_::_::_::_::_::_::_::_::[],_::_::_::_::_::_::_::_::_::_::_::_::_::_::_::_::_::_::_::_::_::_::_::_::_::_::_::_::_::_::_::_::_::_::_::_::_::_::_::_::[]⟩) rfl ?_ ?_
    | refine ARun.testE rfl rfl (s1 := ⟨_::_::_::_::_::_::_::_::_::_::_::_::_::_::_::_::_::_::_::_::_::_::_::_::_::_::_::_::_::_::_::_::_::_::_::_::_::_::_::_::[],_::_::_::_::_::_::_::_::_::_::_::_::_::_::_::_::_::_::_::_::_::_::_::_::_::_::_::_::_::_::_::_::_::_::_::_::_::_::_::_::[]⟩) rfl ?_
    | refine ARun.testEE rfl rfl (s1 := ⟨_::_::_::_::_::_::_::_::_::_::_::_::_::_::_::_::_::_::_::_::_::_::_::_::_::_::_::_::_::_::_::_::_::_::_::_::_::_::_::_::[],_::_::_::_::_::_::_::_::_::_::_::_::_::_::_::_::_::_::_::_::_::_::_::_::_::_::_::_::_::_::_::_::_::_::_::_::_::_::_::_::[]⟩) rfl ?_
    | refine ARun.split rfl rfl (s1 := ⟨_::_::_::_::_::_::_::_::_::_::_::_::_::_::_::_::_::_::_::_::_::_::_::_::_::_::_::_::_::_::_::_::_::_::_::_::_::_::_::_::[],_::_::_::_::_::_::_::_::_::_::_::_::_::_::_::_::_::_::_::_::_::_::_::_::_::_::_::_::_::_::_::_::_::_::_::_::_::_::_::_::[]⟩) rfl (s2 := ⟨_::_::_::_::_::_::_::_::_::_::_::_::_::_::_::_::_::_::_::_::_::_::_::_::_::_::_::_::_::_::_::_::_::_::_::_::_::_::_::_::[],_::_::_::_::_::_::_::_::_::_::_::_::_::_::_::_::_::_::_::_::_::_::_::_::_::_::_::_::_::_::_::_::_::_::_::_::_::_::_::_::[]⟩) rfl (fun h => ?_) (fun h => ?_)
    | refine And.intro ?_ ?_
    | omega
    | (show _ < List.length _; omega)
    | exact rowlen_intro rfl
    | (simp only [AV.rowlenD, List.length_cons, List.length_nil]; omega))
  · exact FinC.mk' (tab := tab) (r' := .bool false) rfl rfl trivial (congrArg AV.bool (by unfold lightL; rw [decide_eq_false (by omega)]; rfl))
  · refine Holds.loopF (fun x : Int × Int => sh31a ls x.1 x.2) (fun x => (ls.length - x.2).toNat) (fun x => 0 ≤ x.2 ∧ x.2 ≤ ls.length ∧ x.1 = sumL (ls.take x.2.toNat) ∧ x.1 ≤ 1200 ∧ (ls.take x.2.toNat).all noLF = true) (0, 0) ?_ ?_ ?_
    · refine Weak.of ?_ ?_
      · repeat' (first | exact AVles.nil | exact AVle.junk _ | exact AVle.rfl' rfl | exact AVle.nilS | exact AVle.nilB | refine AVles.cons ?_ ?_)
      · repeat' (first | exact Oles.nil | refine Oles.gone ?_ | refine Oles.same ?_)
    · exact ⟨by simp, by simp, by simp [sumL], by simp, by simp⟩
    · intro x hx
      obtain ⟨n, i⟩ := x
      obtain ⟨h1, h2, h3, h4, h5⟩ := hx
      simp only at h1 h2 h3 h4 h5
      have hb := hB i.toNat
      have hs : i < ls.length → sumL (ls.take (i.toNat + 1)) = sumL (ls.take i.toNat) + (ls.getD i.toNat []).length := fun hi => sumL_take ls i.toNat (by omega)
      show Holds Try.prog _ (sh31a ls n i) _
      repeat' (first
        | exact trivial
        | exact absurd rfl h
        | exact ⟨trivial, of_decide_eq_true rfl⟩
        | exact Nat.le_of_ble_eq_true rfl
        | (refine okTr_intro ?_; kernel_rfl)
        | refine Holds.seq ?_
        | refine Holds.region tabs ?_
        | refine Holds.drawn tabs ?_
        | refine Holds.ret ?_
        | refine Holds.skip ?_
        | refine Holds.exit ?_
        | refine Holds.block ?_
        | refine Holds.cond_true rfl ?_
        | refine Holds.cond_false rfl ?_
        | refine Holds.cond rfl (fun h => ?_) (fun h => ?_)
        | refine ARun.nil ?_
        | refine ARun.skip rfl (s1 := ⟨_::_::_::_::_::_::_::_::_::_::_::_::_::_::_::_::_::_::_::_::_::_::_::_::_::_::_::_::_::_::_::_::_::_::_::_::_::_::_::_::[],_::_::_::_::_::_::_::_::_::_::_::_::_::_::_::_::_::_::_::_::_::_::_::_::_::_::_::_::_::_::_::_::_::_::_::_::_::_::_::_::[]⟩) rfl ?_
        | refine ARun.valF rfl rfl rfl (s1 := ⟨_::_::_::_::_::_::_::_::_::_::_::_::_::_::_::_::_::_::_::_::_::_::_::_::_::_::_::_::_::_::_::_::_::_::_::_::_::_::_::_::[],_::_::_::_::_::_::_::_::_::_::_::_::_::_::_::_::_::_::_::_::_::_::_::_::_::_::_::_::_::_::_::_::_::_::_::_::_::_::_::_::[]⟩) rfl ?_ ?_
        | refine ARun.testE rfl rfl (s1 := ⟨_::_::_::_::_::_::_::_::_::_::_::_::_::_::_::_::_::_::_::_::_::_::_::_::_::_::_::_::_::_::_::_::_::_::_::_::_::_::_::_::[],_::_::_::_::_::_::_::_::_::_::_::_::_::_::_::_::_::_::_::_::_::_::_::_::_::_::_::_::_::_::_::_::_::_::_::_::_::_::_::_::[]⟩) rfl ?_
        | refine ARun.testEE rfl rfl (s1 := ⟨_::_::_::_::_::_::_::_::_::_::_::_::_::_::_::_::_::_::_::_::_::_::_::_::_::_::_::_::_::_::_::_::_::_::_::_::_::_::_::_::[],_::_::_::_::_::_::_::_::_::_::_::_::_::_::_::_::_::_::_::_::_::_::_::_::_::_::_::_::_::_::_::_::_::_::_::_::_::_::_::_::[]⟩) rfl ?_
        | refine ARun.split rfl rfl (s1 := ⟨_::_::_::_::_::_::_::_::_::_::_::_::_::_::_::_::_::_::_::_::_::_::_::_::_::_::_::_::_::_::_::_::_::_::_::_::_::_::_::_::[],_::_::_::_::_::_::_::_::_::_::_::_::_::_::_::_::_::_::_::_::_::_::_::_::_::_::_::_::_::_::_::_::_::_::_::_::_::_::_::_::[]⟩) rfl (s2 := ⟨_::_::_::_::_::_::_::_::_::_::_::_::_::_::_::_::_::_::_::_::_::_::_::_::_::_::_::_::_::_::_::_::_::_::_::_::_::_::_::_::[],_::_::_::_::_::_::_::_::_::_::_::_::_::_::_::_::_::_::_::_::_::_::_::_::_::_::_::_::_::_::_::_::_::_::_::_::_::_::_::_::[]⟩) rfl (fun h => ?_) (fun h => ?_)
        | refine And.intro ?_ ?_
        | omega
        | (show _ < List.length _; omega)
        | exact rowlen_intro rfl
        | (simp only [AV.rowlenD, List.length_cons, List.length_nil]; omega))
      · refine FinC.mk' (tab := tab) (r' := .bool false) rfl rfl trivial (congrArg AV.bool ?_)
        have h6 := sumL_le ls (i.toNat + 1)
        unfold lightL
        rw [decide_eq_false (p := sumL ls ≤ 1200) (by omega)]
        simp
      · rename_i hi
        have hi' := hs hi
        refine Holds.loopF (fun k : Int => sh31b ls (n + (ls.getD i.toNat []).length) i k) (fun k => ((ls.getD i.toNat []).length - k).toNat) (fun k => 0 ≤ k ∧ k ≤ (ls.getD i.toNat []).length ∧ noLF ((ls.getD i.toNat []).take k.toNat) = true) 0 ?_ ?_ ?_
        · refine Weak.of ?_ ?_
          · repeat' (first | exact AVles.nil | exact AVle.junk _ | exact AVle.rfl' rfl | exact AVle.nilS | exact AVle.nilB | refine AVles.cons ?_ ?_)
          · repeat' (first | exact Oles.nil | refine Oles.gone ?_ | refine Oles.same ?_)
        · exact ⟨by simp, by simp, by simp [noLF]⟩
        · intro k hk
          obtain ⟨k1, k2, k3⟩ := hk
          show Holds Try.prog _ (sh31b ls (n + (ls.getD i.toNat []).length) i k) _
          repeat' (first
            | exact trivial
            | exact absurd rfl h
            | exact ⟨trivial, of_decide_eq_true rfl⟩
            | exact Nat.le_of_ble_eq_true rfl
            | (refine okTr_intro ?_; kernel_rfl)
            | refine Holds.seq ?_
            | refine Holds.region tabs ?_
            | refine Holds.drawn tabs ?_
            | refine Holds.ret ?_
            | refine Holds.skip ?_
            | refine Holds.exit ?_
            | refine Holds.block ?_
            | refine Holds.cond_true rfl ?_
            | refine Holds.cond_false rfl ?_
            | refine Holds.cond rfl (fun h => ?_) (fun h => ?_)
            | refine ARun.nil ?_
            | refine ARun.skip rfl (s1 := ⟨_::_::_::_::_::_::_::_::_::_::_::_::_::_::_::_::_::_::_::_::_::_::_::_::_::_::_::_::_::_::_::_::_::_::_::_::_::_::_::_::[],_::_::_::_::_::_::_::_::_::_::_::_::_::_::_::_::_::_::_::_::_::_::_::_::_::_::_::_::_::_::_::_::_::_::_::_::_::_::_::_::[]⟩) rfl ?_
            | refine ARun.valF rfl rfl rfl (s1 := ⟨_::_::_::_::_::_::_::_::_::_::_::_::_::_::_::_::_::_::_::_::_::_::_::_::_::_::_::_::_::_::_::_::_::_::_::_::_::_::_::_::[],_::_::_::_::_::_::_::_::_::_::_::_::_::_::_::_::_::_::_::_::_::_::_::_::_::_::_::_::_::_::_::_::_::_::_::_::_::_::_::_::[]⟩) rfl ?_ ?_
            | refine ARun.testE rfl rfl (s1 := ⟨_::_::_::_::_::_::_::_::_::_::_::_::_::_::_::_::_::_::_::_::_::_::_::_::_::_::_::_::_::_::_::_::_::_::_::_::_::_::_::_::[],_::_::_::_::_::_::_::_::_::_::_::_::_::_::_::_::_::_::_::_::_::_::_::_::_::_::_::_::_::_::_::_::_::_::_::_::_::_::_::_::[]⟩) rfl ?_
            | refine ARun.testEE rfl rfl (s1 := ⟨_::_::_::_::_::_::_::_::_::_::_::_::_::_::_::_::_::_::_::_::_::_::_::_::_::_::_::_::_::_::_::_::_::_::_::_::_::_::_::_::[],_::_::_::_::_::_::_::_::_::_::_::_::_::_::_::_::_::_::_::_::_::_::_::_::_::_::_::_::_::_::_::_::_::_::_::_::_::_::_::_::[]⟩) rfl ?_
            | refine ARun.split rfl rfl (s1 := ⟨_::_::_::_::_::_::_::_::_::_::_::_::_::_::_::_::_::_::_::_::_::_::_::_::_::_::_::_::_::_::_::_::_::_::_::_::_::_::_::_::[],_::_::_::_::_::_::_::_::_::_::_::_::_::_::_::_::_::_::_::_::_::_::_::_::_::_::_::_::_::_::_::_::_::_::_::_::_::_::_::_::[]⟩) rfl (s2 := ⟨_::_::_::_::_::_::_::_::_::_::_::_::_::_::_::_::_::_::_::_::_::_::_::_::_::_::_::_::_::_::_::_::_::_::_::_::_::_::_::_::[],_::_::_::_::_::_::_::_::_::_::_::_::_::_::_::_::_::_::_::_::_::_::_::_::_::_::_::_::_::_::_::_::_::_::_::_::_::_::_::_::[]⟩) rfl (fun h => ?_) (fun h => ?_)
            | refine And.intro ?_ ?_
            | omega
            | (show _ < List.length _; omega)
            | exact rowlen_intro rfl
            | (simp only [AV.rowlenD, List.length_cons, List.length_nil]; omega))
          · refine FinC.mk' (tab := tab) (r' := .bool false) rfl rfl trivial (congrArg AV.bool ?_)
            have h6 : noLF (ls.getD i.toNat []) = false := all_not _ 0 _ k.toNat (by omega) (byte_eq h)
            unfold lightL
            rw [all_not _ [] _ i.toNat (by omega) h6]
            simp
          · refine ⟨k + 1, ⟨by omega, by omega, by omega, ?_⟩, ?_⟩
            · rw [toNat_succ k1]; exact all_take _ 0 _ _ (by omega) k3 (byte_ne h)
            · refine Weak.of ?_ ?_
              · repeat' (first | exact AVles.nil | exact AVle.junk _ | exact AVle.rfl' rfl | exact AVle.nilS | exact AVle.nilB | refine AVles.cons ?_ ?_)
              · repeat' (first | exact Oles.nil | refine Oles.gone ?_ | refine Oles.same ?_)
          · refine ⟨(n + (ls.getD i.toNat []).length, i + 1), ⟨by simp only; omega, by simp only; omega, by simp only; omega, ?_, by simp only; omega, ?_⟩, ?_⟩
            · simp only; rw [toNat_succ h1, hi']; omega
            · simp only; rw [toNat_succ h1]
              refine all_take _ [] _ _ (by omega) h5 ?_
              rw [List.take_of_length_le (by omega)] at k3
              exact k3
            · refine Weak.of ?_ ?_
              · repeat' (first | exact AVles.nil | exact AVle.junk _ | exact AVle.rfl' rfl | exact AVle.nilS | exact AVle.nilB | refine AVles.cons ?_ ?_)
              · repeat' (first | exact Oles.nil | refine Oles.gone ?_ | refine Oles.same ?_)
      · refine FinC.mk' (tab := tab) (r' := .bool true) rfl rfl trivial (congrArg AV.bool ?_)
        rw [List.take_of_length_le (by omega)] at h3 h5
        unfold lightL
        rw [decide_eq_true (by omega), decide_eq_true (by omega), h5]; rfl

theorem p27 (ls : List (List UInt8)) (hL : ls.length ≤ 140737488355328) (hB : ∀ n : Nat, (ls.getD n []).length ≤ 140737488355328) : Pure Try.prog 27 [.slS ls] (.bool (decide (0 < (ls.length : Int)) && lightL ls)) := by
  refine Pure.ofC tab_ok Try.func27 rfl rfl [.tmp 2] rfl (by decide) rfl ?_
  repeat' (first
    | exact trivial
    | exact absurd rfl h
    | exact ⟨trivial, of_decide_eq_true rfl⟩
    | exact Nat.le_of_ble_eq_true rfl
    | (refine okTr_intro ?_; kernel_rfl)
    | refine Holds.seq ?_
    | refine Holds.region tabs ?_
    | refine Holds.drawn tabs ?_
    | refine Holds.ret ?_
    | refine Holds.skip ?_
    | refine Holds.exit ?_
    | refine Holds.block ?_
    | refine Holds.cond_true rfl ?_
    | refine Holds.cond_false rfl ?_
    | refine Holds.cond rfl (fun h => ?_) (fun h => ?_)
    | refine ARun.nil ?_
    | refine ARun.skip rfl (s1 := ⟨_::_::_::_::_::_::_::_::_::_::[],_::_::_::_::_::_::_::_::_::_::[]⟩) rfl ?_
    | refine ARun.valF rfl rfl rfl (s1 := ⟨_::_::_::_::_::_::_::_::_::_::[],_::_::_::_::_::_::_::_::_::_::[]⟩) rfl ?_ ?_
    | refine ARun.testE rfl rfl (s1 := ⟨_::_::_::_::_::_::_::_::_::_::[],_::_::_::_::_::_::_::_::_::_::[]⟩) rfl ?_
    | refine ARun.testEE rfl rfl (s1 := ⟨_::_::_::_::_::_::_::_::_::_::[],_::_::_::_::_::_::_::_::_::_::[]⟩) rfl ?_
    | refine ARun.split rfl rfl (s1 := ⟨_::_::_::_::_::_::_::_::_::_::[],_::_::_::_::_::_::_::_::_::_::[]⟩) rfl (s2 := ⟨_::_::_::_::_::_::_::_::_::_::[],_::_::_::_::_::_::_::_::_::_::[]⟩) rfl (fun h => ?_) (fun h => ?_)
    | refine ARun.callB rfl rfl rfl rfl rfl rfl (p31 _ hL hB) ?_ (s1 := ⟨_::_::_::_::_::_::_::_::_::_::[],_::_::_::_::_::_::_::_::_::_::[]⟩) rfl (s2 := ⟨_::_::_::_::_::_::_::_::_::_::[],_::_::_::_::_::_::_::_::_::_::[]⟩) rfl (fun h => ?_) (fun h => ?_)
    | refine And.intro ?_ ?_
    | omega
    | (show _ < List.length _; omega)
    | exact rowlen_intro rfl
    | (simp only [AV.rowlenD, List.length_cons, List.length_nil]; omega))
  all_goals show FinC _ _ _ _
  all_goals refine FinC.mk' (r' := .bool _) rfl rfl trivial (congrArg AV.bool ?_)
  all_goals simp only [*, Bool.true_and, Bool.false_and, decide_true, decide_false, Bool.and_true, Bool.and_false]

end Go.Proofs.Ytefbgdnobnemkaa.AM
