/-
  Places and ranges: what the functions compute.
-/
import Derived.Test.YtefbgdnobnemkaaT1
import Derived.Test.YtefbgdnobnemkaaM30
namespace Go.Proofs.Ytefbgdnobnemkaa.AM
open Go Go.RowKit

def ltP (a b c d : Int) : Bool := decide (a < c ∨ (a = c ∧ b < d))

theorem p25 (a b c d : Int) : Pure Try.prog 25 [.agg [.int .i64 a, .int .i64 b], .agg [.int .i64 c, .int .i64 d]] (.bool (ltP a b c d)) := by
  refine Pure.ofC tab_ok Try.func25 rfl rfl [.tmp 4] rfl (by decide) rfl ?_
  repeat' (first
    | exact trivial
    | exact ⟨trivial, of_decide_eq_true rfl⟩
    | exact Nat.le_of_ble_eq_true rfl
    | (refine okTr_intro ?_; kernel_rfl)
    | refine Holds.seq ?_
    | refine Holds.region tabs ?_
    | refine Holds.drawn tabs ?_
    | refine Holds.ret ?_
    | refine Holds.skip ?_
    | refine Holds.exit ?_
    | refine Holds.block ?_
    | refine Holds.cond_true rfl ?_
    | refine Holds.cond_false rfl ?_
    | refine Holds.cond rfl (fun h => ?_) (fun h => ?_)
    | refine ARun.nil ?_
    | refine ARun.skip rfl (s1 := ⟨_::_::_::_::_::_::_::_::_::_::_::_::_::_::_::_::_::_::_::_::_::_::_::_::[],_::_::_::_::_::_::_::_::_::_::_::_::_::_::_::_::_::_::_::_::_::_::_::_::[]⟩) rfl ?_
    | refine ARun.valF rfl rfl rfl (s1 := ⟨_::_::_::_::_::_::_::_::_::_::_::_::_::_::_::_::_::_::_::_::_::_::_::_::[],_::_::_::_::_::_::_::_::_::_::_::_::_::_::_::_::_::_::_::_::_::_::_::_::[]⟩) rfl ?_ ?_
    | refine ARun.split rfl rfl (s1 := ⟨_::_::_::_::_::_::_::_::_::_::_::_::_::_::_::_::_::_::_::_::_::_::_::_::[],_::_::_::_::_::_::_::_::_::_::_::_::_::_::_::_::_::_::_::_::_::_::_::_::[]⟩) rfl (s2 := ⟨_::_::_::_::_::_::_::_::_::_::_::_::_::_::_::_::_::_::_::_::_::_::_::_::[],_::_::_::_::_::_::_::_::_::_::_::_::_::_::_::_::_::_::_::_::_::_::_::_::[]⟩) rfl (fun h => ?_) (fun h => ?_)
    | refine And.intro ?_ ?_
    | omega
    | (show _ < List.length _; omega)
    | exact rowlen_intro rfl
    | (simp only [AV.rowlenD, List.length_cons, List.length_nil]; omega))
  all_goals show FinC _ _ _ _
  all_goals refine FinC.mk' (r' := .bool _) rfl rfl trivial (congrArg AV.bool ?_)
  all_goals (unfold ltP; symm; first | exact decide_eq_true (by omega) | exact decide_eq_false (by omega))

theorem p26 (a b c d : Int) : Pure Try.prog 26 [.agg [.int .i64 a, .int .i64 b], .agg [.int .i64 c, .int .i64 d]] (.bool (ltP a b c d)) := by
  refine Pure.ofC tab_ok Try.func26 rfl rfl [.tmp 4] rfl (by decide) rfl ?_
  repeat' (first
    | exact trivial
    | exact ⟨trivial, of_decide_eq_true rfl⟩
    | exact Nat.le_of_ble_eq_true rfl
    | (refine okTr_intro ?_; kernel_rfl)
    | refine Holds.seq ?_
    | refine Holds.region tabs ?_
    | refine Holds.drawn tabs ?_
    | refine Holds.ret ?_
    | refine Holds.skip ?_
    | refine Holds.exit ?_
    | refine Holds.block ?_
    | refine Holds.cond_true rfl ?_
    | refine Holds.cond_false rfl ?_
    | refine Holds.cond rfl (fun h => ?_) (fun h => ?_)
    | refine ARun.nil ?_
    | refine ARun.skip rfl (s1 := ⟨_::_::_::_::_::_::_::_::_::_::_::_::_::_::_::_::_::_::_::_::_::_::_::_::[],_::_::_::_::_::_::_::_::_::_::_::_::_::_::_::_::_::_::_::_::_::_::_::_::[]⟩) rfl ?_
    | refine ARun.valF rfl rfl rfl (s1 := ⟨_::_::_::_::_::_::_::_::_::_::_::_::_::_::_::_::_::_::_::_::_::_::_::_::[],_::_::_::_::_::_::_::_::_::_::_::_::_::_::_::_::_::_::_::_::_::_::_::_::[]⟩) rfl ?_ ?_
    | refine ARun.split rfl rfl (s1 := ⟨_::_::_::_::_::_::_::_::_::_::_::_::_::_::_::_::_::_::_::_::_::_::_::_::[],_::_::_::_::_::_::_::_::_::_::_::_::_::_::_::_::_::_::_::_::_::_::_::_::[]⟩) rfl (s2 := ⟨_::_::_::_::_::_::_::_::_::_::_::_::_::_::_::_::_::_::_::_::_::_::_::_::[],_::_::_::_::_::_::_::_::_::_::_::_::_::_::_::_::_::_::_::_::_::_::_::_::[]⟩) rfl (fun h => ?_) (fun h => ?_)
    | refine And.intro ?_ ?_
    | omega
    | (show _ < List.length _; omega)
    | exact rowlen_intro rfl
    | (simp only [AV.rowlenD, List.length_cons, List.length_nil]; omega))
  all_goals show FinC _ _ _ _
  all_goals refine FinC.mk' (r' := .bool _) rfl rfl trivial (congrArg AV.bool ?_)
  all_goals (unfold ltP; symm; first | exact decide_eq_true (by omega) | exact decide_eq_false (by omega))

theorem p23 (a b c d : Int) : Pure Try.prog 23 [.agg [.int .i64 a, .int .i64 b], .agg [.int .i64 c, .int .i64 d]] (.tup [.agg [.int .i64 (cond (ltP c d a b) c a), .int .i64 (cond (ltP c d a b) d b)], .agg [.int .i64 (cond (ltP c d a b) a c), .int .i64 (cond (ltP c d a b) b d)]]) := by
  refine Pure.ofC tab_ok Try.func23 rfl rfl [.cell 4 23, .cell 5 23] rfl (by decide) rfl ?_
  repeat' (first
    | exact trivial
    | exact ⟨trivial, of_decide_eq_true rfl⟩
    | exact Nat.le_of_ble_eq_true rfl
    | (refine okTr_intro ?_; kernel_rfl)
    | refine Holds.seq ?_
    | refine Holds.region tabs ?_
    | refine Holds.drawn tabs ?_
    | refine Holds.ret ?_
    | refine Holds.skip ?_
    | refine Holds.exit ?_
    | refine Holds.block ?_
    | refine Holds.cond_true rfl ?_
    | refine Holds.cond_false rfl ?_
    | refine Holds.cond rfl (fun h => ?_) (fun h => ?_)
    | refine ARun.nil ?_
    | refine ARun.skip rfl (s1 := ⟨_::_::_::_::_::_::_::_::_::_::_::_::_::[],_::_::_::_::_::_::_::_::_::_::_::_::_::[]⟩) rfl ?_
    | refine ARun.valF rfl rfl rfl (s1 := ⟨_::_::_::_::_::_::_::_::_::_::_::_::_::[],_::_::_::_::_::_::_::_::_::_::_::_::_::[]⟩) rfl ?_ ?_
    | refine ARun.split rfl rfl (s1 := ⟨_::_::_::_::_::_::_::_::_::_::_::_::_::[],_::_::_::_::_::_::_::_::_::_::_::_::_::[]⟩) rfl (s2 := ⟨_::_::_::_::_::_::_::_::_::_::_::_::_::[],_::_::_::_::_::_::_::_::_::_::_::_::_::[]⟩) rfl (fun h => ?_) (fun h => ?_)
    | refine ARun.callF rfl rfl rfl rfl rfl rfl (p25 _ _ _ _) ?_ (s1 := ⟨_::_::_::_::_::_::_::_::_::_::_::_::_::[],_::_::_::_::_::_::_::_::_::_::_::_::_::[]⟩) rfl ?_
    | refine And.intro ?_ ?_
    | omega
    | (show _ < List.length _; omega)
    | exact rowlen_intro rfl
    | (simp only [AV.rowlenD, List.length_cons, List.length_nil]; omega))
  all_goals refine FinC.mk' (r' := .tup [.agg [.int .i64 _, .int .i64 _], .agg [.int .i64 _, .int .i64 _]]) rfl rfl ⟨⟨trivial, trivial, trivial⟩, ⟨trivial, trivial, trivial⟩, trivial⟩ (by rw [h]; rfl)

theorem p24 (a b c d : Int) : Pure Try.prog 24 [.agg [.int .i64 a, .int .i64 b], .agg [.int .i64 c, .int .i64 d]] (.tup [.agg [.int .i64 (cond (ltP c d a b) c a), .int .i64 (cond (ltP c d a b) d b)], .agg [.int .i64 (cond (ltP c d a b) a c), .int .i64 (cond (ltP c d a b) b d)]]) := by
  refine Pure.ofC tab_ok Try.func24 rfl rfl [.cell 4 23, .cell 5 23] rfl (by decide) rfl ?_
  repeat' (first
    | exact trivial
    | exact ⟨trivial, of_decide_eq_true rfl⟩
    | exact Nat.le_of_ble_eq_true rfl
    | (refine okTr_intro ?_; kernel_rfl)
    | refine Holds.seq ?_
    | refine Holds.region tabs ?_
    | refine Holds.drawn tabs ?_
    | refine Holds.ret ?_
    | refine Holds.skip ?_
    | refine Holds.exit ?_
    | refine Holds.block ?_
    | refine Holds.cond_true rfl ?_
    | refine Holds.cond_false rfl ?_
    | refine Holds.cond rfl (fun h => ?_) (fun h => ?_)
    | refine ARun.nil ?_
    | refine ARun.skip rfl (s1 := ⟨_::_::_::_::_::_::_::_::_::_::_::_::_::[],_::_::_::_::_::_::_::_::_::_::_::_::_::[]⟩) rfl ?_
    | refine ARun.valF rfl rfl rfl (s1 := ⟨_::_::_::_::_::_::_::_::_::_::_::_::_::[],_::_::_::_::_::_::_::_::_::_::_::_::_::[]⟩) rfl ?_ ?_
    | refine ARun.split rfl rfl (s1 := ⟨_::_::_::_::_::_::_::_::_::_::_::_::_::[],_::_::_::_::_::_::_::_::_::_::_::_::_::[]⟩) rfl (s2 := ⟨_::_::_::_::_::_::_::_::_::_::_::_::_::[],_::_::_::_::_::_::_::_::_::_::_::_::_::[]⟩) rfl (fun h => ?_) (fun h => ?_)
    | refine ARun.callF rfl rfl rfl rfl rfl rfl (p26 _ _ _ _) ?_ (s1 := ⟨_::_::_::_::_::_::_::_::_::_::_::_::_::[],_::_::_::_::_::_::_::_::_::_::_::_::_::[]⟩) rfl ?_
    | refine And.intro ?_ ?_
    | omega
    | (show _ < List.length _; omega)
    | exact rowlen_intro rfl
    | (simp only [AV.rowlenD, List.length_cons, List.length_nil]; omega))
  all_goals refine FinC.mk' (r' := .tup [.agg [.int .i64 _, .int .i64 _], .agg [.int .i64 _, .int .i64 _]]) rfl rfl ⟨⟨trivial, trivial, trivial⟩, ⟨trivial, trivial, trivial⟩, trivial⟩ (by rw [h]; rfl)


theorem toNat_succ {k : Int} (h : 0 ≤ k) : (k + 1).toNat = k.toNat + 1 := by omega
theorem take_succ_eq {α : Type} {a b : List α} {d : α} {k : Nat} (h : a.take k = b.take k) (ha : k < a.length) (hb : k < b.length) (he : a.getD k d = b.getD k d) : a.take (k + 1) = b.take (k + 1) := by
  rw [List.take_add_one, List.take_add_one, h]
  simp only [List.getD_eq_getElem?_getD, List.getElem?_eq_getElem ha, List.getElem?_eq_getElem hb, Option.getD_some] at he ⊢
  rw [he]

def sh30 (a b : List (List UInt8)) (k : Int) : AState := ⟨.slS a :: .slS b :: .junk :: .junk :: .junk :: .int .i64 k :: .junk :: .junk :: .junk :: .junk :: .junk :: .junk :: .junk :: .junk :: .junk :: .junk :: .junk :: .junk :: .junk :: .junk :: .junk :: .junk :: .junk :: .junk :: .junk :: .junk :: [], none :: none :: none :: none :: none :: none :: none :: none :: none :: none :: none :: none :: none :: none :: none :: none :: none :: none :: none :: none :: none :: none :: none :: none :: none :: none :: []⟩
theorem p30 (a b : List (List UInt8)) (ha : a.length ≤ 1000000000000) : Pure Try.prog 30 [.slS a, .slS b] (.bool (decide (a = b))) := by
  refine Pure.ofC tab_ok Try.func30 rfl rfl [.tmp 4] rfl (by decide) rfl ?_
  repeat' (first
    | exact trivial
    | exact ⟨trivial, of_decide_eq_true rfl⟩
    | exact Nat.le_of_ble_eq_true rfl
    | (refine okTr_intro ?_; kernel_rfl)
    | refine Holds.seq ?_
    | refine Holds.region tabs ?_
    | refine Holds.drawn tabs ?_
    | refine Holds.ret ?_
    | refine Holds.skip ?_
    | refine Holds.exit ?_
    | refine Holds.block ?_
    | refine Holds.cond_true rfl ?_
    | refine Holds.cond_false rfl ?_
    | refine Holds.cond rfl (fun h => ?_) (fun h => ?_)
    | refine ARun.nil ?_
    | refine ARun.skip rfl (s1 := ⟨_::_::_::_::_::_::_::_::_::_::_::_::_::_::_::_::_::_::_::_::_::_::_::_::_::_::[],_::_::_::_::_::_::_::_::_::_::_::_::_::_::_::_::_::_::_::_::_::_::_::_::_::_::[]⟩) rfl ?_
    | refine ARun.valF rfl rfl rfl (s1 := ⟨_::_::_::_::_::_::_::_::_::_::_::_::_::_::_::_::_::_::_::_::_::_::_::_::_::_::[],_::_::_::_::_::_::_::_::_::_::_::_::_::_::_::_::_::_::_::_::_::_::_::_::_::_::[]⟩) rfl ?_ ?_
    | refine ARun.split rfl rfl (s1 := ⟨_::_::_::_::_::_::_::_::_::_::_::_::_::_::_::_::_::_::_::_::_::_::_::_::_::_::[],_::_::_::_::_::_::_::_::_::_::_::_::_::_::_::_::_::_::_::_::_::_::_::_::_::_::[]⟩) rfl (s2 := ⟨_::_::_::_::_::_::_::_::_::_::_::_::_::_::_::_::_::_::_::_::_::_::_::_::_::_::[],_::_::_::_::_::_::_::_::_::_::_::_::_::_::_::_::_::_::_::_::_::_::_::_::_::_::[]⟩) rfl (fun h => ?_) (fun h => ?_)
    | refine And.intro ?_ ?_
    | omega
    | (show _ < List.length _; omega)
    | exact rowlen_intro rfl
    | (simp only [AV.rowlenD, List.length_cons, List.length_nil]; omega))
  · refine FinC.mk' (r' := .bool _) rfl rfl trivial (congrArg AV.bool (Eq.symm (decide_eq_false fun e => ?_)))
    subst e; exact absurd rfl ‹_›
  · have hl : a.length = b.length := by omega
    refine Holds.loopF (sh30 a b) (fun k => (a.length - k).toNat) (fun k => 0 ≤ k ∧ k ≤ a.length ∧ a.take k.toNat = b.take k.toNat) 0 ?_ ?_ ?_
    · refine Weak.of ?_ ?_
      · repeat' (first | exact AVles.nil | exact AVle.junk _ | exact AVle.rfl' rfl | exact AVle.nilS | exact AVle.nilB | refine AVles.cons ?_ ?_)
      · repeat' (first | exact Oles.nil | refine Oles.gone ?_ | refine Oles.same ?_)
    · exact ⟨by omega, by omega, rfl⟩
    · intro k hk
      obtain ⟨h1, h2, h3⟩ := hk
      repeat' (first
        | exact trivial
        | exact ⟨trivial, of_decide_eq_true rfl⟩
        | exact Nat.le_of_ble_eq_true rfl
        | (refine okTr_intro ?_; kernel_rfl)
        | refine Holds.seq ?_
        | refine Holds.region tabs ?_
        | refine Holds.drawn tabs ?_
        | refine Holds.ret ?_
        | refine Holds.skip ?_
        | refine Holds.exit ?_
        | refine Holds.block ?_
        | refine Holds.cond_true rfl ?_
        | refine Holds.cond_false rfl ?_
        | refine Holds.cond rfl (fun h => ?_) (fun h => ?_)
        | refine ARun.nil ?_
        | refine ARun.skip rfl (s1 := ⟨_::_::_::_::_::_::_::_::_::_::_::_::_::_::_::_::_::_::_::_::_::_::_::_::_::_::[],_::_::_::_::_::_::_::_::_::_::_::_::_::_::_::_::_::_::_::_::_::_::_::_::_::_::[]⟩) rfl ?_
        | refine ARun.valF rfl rfl rfl (s1 := ⟨_::_::_::_::_::_::_::_::_::_::_::_::_::_::_::_::_::_::_::_::_::_::_::_::_::_::[],_::_::_::_::_::_::_::_::_::_::_::_::_::_::_::_::_::_::_::_::_::_::_::_::_::_::[]⟩) rfl ?_ ?_
        | refine ARun.split rfl rfl (s1 := ⟨_::_::_::_::_::_::_::_::_::_::_::_::_::_::_::_::_::_::_::_::_::_::_::_::_::_::[],_::_::_::_::_::_::_::_::_::_::_::_::_::_::_::_::_::_::_::_::_::_::_::_::_::_::[]⟩) rfl (s2 := ⟨_::_::_::_::_::_::_::_::_::_::_::_::_::_::_::_::_::_::_::_::_::_::_::_::_::_::[],_::_::_::_::_::_::_::_::_::_::_::_::_::_::_::_::_::_::_::_::_::_::_::_::_::_::[]⟩) rfl (fun h => ?_) (fun h => ?_)
        | refine And.intro ?_ ?_
        | omega
        | (show _ < List.length _; omega)
        | exact rowlen_intro rfl
        | (simp only [AV.rowlenD, List.length_cons, List.length_nil]; omega))
      · refine FinC.mk' (r' := .bool _) rfl rfl trivial (congrArg AV.bool (Eq.symm (decide_eq_false fun e => ?_)))
        subst e; exact absurd rfl ‹_›
      · refine ⟨k + 1, ⟨by omega, by omega, by omega, ?_⟩, ?_⟩
        · rw [toNat_succ h1]; exact take_succ_eq h3 (by omega) (by omega) (Decidable.not_not.1 h)
        · refine Weak.of ?_ ?_
          · repeat' (first | exact AVles.nil | exact AVle.junk _ | exact AVle.rfl' rfl | exact AVle.nilS | exact AVle.nilB | refine AVles.cons ?_ ?_)
          · repeat' (first | exact Oles.nil | refine Oles.gone ?_ | refine Oles.same ?_)
      · refine FinC.mk' (r' := .bool _) rfl rfl trivial (congrArg AV.bool (Eq.symm (decide_eq_true ?_)))
        rw [List.take_of_length_le (by omega), List.take_of_length_le (by omega)] at h3
        exact h3

def placeL (ls : List (List UInt8)) (l c : Int) : Bool := decide (0 ≤ l ∧ l < ls.length ∧ 0 ≤ c ∧ c ≤ (ls.getD l.toNat []).length)

theorem p58 (ls : List (List UInt8)) (l c : Int) : Pure Try.prog 58 [.slS ls, .agg [.int .i64 l, .int .i64 c]] (.bool (placeL ls l c)) := by
  refine Pure.ofC tab_ok Try.func58 rfl rfl [.tmp 4] rfl (by decide) rfl ?_
  repeat' (first
    | exact trivial
    | exact ⟨trivial, of_decide_eq_true rfl⟩
    | exact Nat.le_of_ble_eq_true rfl
    | (refine okTr_intro ?_; kernel_rfl)
    | refine Holds.seq ?_
    | refine Holds.region tabs ?_
    | refine Holds.drawn tabs ?_
    | refine Holds.ret ?_
    | refine Holds.skip ?_
    | refine Holds.exit ?_
    | refine Holds.block ?_
    | refine Holds.cond_true rfl ?_
    | refine Holds.cond_false rfl ?_
    | refine Holds.cond rfl (fun h => ?_) (fun h => ?_)
    | refine ARun.nil ?_
    | refine ARun.skip rfl (s1 := ⟨_::_::_::_::_::_::_::_::_::_::_::_::_::_::_::_::_::_::_::_::_::_::_::_::_::_::_::_::_::_::_::[],_::_::_::_::_::_::_::_::_::_::_::_::_::_::_::_::_::_::_::_::_::_::_::_::_::_::_::_::_::_::_::[]⟩) rfl ?_
    | refine ARun.valF rfl rfl rfl (s1 := ⟨_::_::_::_::_::_::_::_::_::_::_::_::_::_::_::_::_::_::_::_::_::_::_::_::_::_::_::_::_::_::_::[],_::_::_::_::_::_::_::_::_::_::_::_::_::_::_::_::_::_::_::_::_::_::_::_::_::_::_::_::_::_::_::[]⟩) rfl ?_ ?_
    | refine ARun.split rfl rfl (s1 := ⟨_::_::_::_::_::_::_::_::_::_::_::_::_::_::_::_::_::_::_::_::_::_::_::_::_::_::_::_::_::_::_::[],_::_::_::_::_::_::_::_::_::_::_::_::_::_::_::_::_::_::_::_::_::_::_::_::_::_::_::_::_::_::_::[]⟩) rfl (s2 := ⟨_::_::_::_::_::_::_::_::_::_::_::_::_::_::_::_::_::_::_::_::_::_::_::_::_::_::_::_::_::_::_::[],_::_::_::_::_::_::_::_::_::_::_::_::_::_::_::_::_::_::_::_::_::_::_::_::_::_::_::_::_::_::_::[]⟩) rfl (fun h => ?_) (fun h => ?_)
    | refine And.intro ?_ ?_
    | omega
    | (show _ < List.length _; omega)
    | exact rowlen_intro rfl
    | (simp only [AV.rowlenD, List.length_cons, List.length_nil]; omega))
  all_goals show FinC _ _ _ _
  all_goals refine FinC.mk' (r' := .bool _) rfl rfl trivial (congrArg AV.bool ?_)
  all_goals (unfold placeL; symm; first | exact decide_eq_true (by omega) | exact decide_eq_false (by omega))


end Go.Proofs.Ytefbgdnobnemkaa.AM
