/-
  Places and ranges: what the functions compute, third part.
-/
import Derived.Test.YtefbgdnobnemkaaF2
namespace Go.Proofs.Ytefbgdnobnemkaa.AM
open Go Go.RowKit

def lenL (ls : List (List UInt8)) (i : Int) : Int := (ls.getD i.toNat []).length
def colF (ls : List (List UInt8)) (k fl fc i : Int) : Int := if k = 0 then (if i = fl then fc else 0) else if k = 2 then min fc (lenL ls i) else 0
def colT (ls : List (List UInt8)) (k tl tc i : Int) : Int := if k = 0 then (if i = tl then tc else lenL ls i) else if k = 2 then min tc (lenL ls i - 1) + 1 else lenL ls i

theorem tup2 {a b c d : Int} (h1 : a = c) (h2 : b = d) : AV.tup [.int .i64 a, .int .i64 b] = .tup [.int .i64 c, .int .i64 d] := by rw [h1, h2]

set_option maxRecDepth 10000 in
set_option maxHeartbeats 2000000 in
theorem p56 (ls : List (List UInt8)) (k fl fc tl tc i : Int) (h0 : 0 ≤ i) (h1 : i < ls.length) (hB : ∀ n : Nat, (ls.getD n []).length ≤ 1000000000000) (hq : k = 2 → -1000000000000000 ≤ tc) : Pure Try.prog 56 [.slS ls, .agg [.int .i64 k, .int .i64 fl, .int .i64 fc, .int .i64 tl, .int .i64 tc], .int .i64 i] (.tup [.int .i64 (colF ls k fl fc i), .int .i64 (colT ls k tl tc i)]) := by
  have hb := hB i.toNat
  refine Pure.ofC tab_ok Try.func56 rfl rfl [.tmp 6, .tmp 7] rfl (by decide) rfl ?_
  repeat' (first
    | exact trivial
    | exact ⟨trivial, of_decide_eq_true rfl⟩
    | exact Nat.le_of_ble_eq_true rfl
    | (refine okTr_intro ?_; kernel_rfl)
    | refine Holds.seq ?_
    | refine Holds.region tabs ?_
    | refine Holds.drawn tabs ?_
    | refine Holds.ret ?_
    | refine Holds.skip ?_
    | refine Holds.exit ?_
    | refine Holds.block ?_
    | refine Holds.cond_true rfl ?_
    | refine Holds.cond_false rfl ?_
    | refine Holds.cond rfl (fun h => ?_) (fun h => ?_)
    | refine ARun.nil ?_
    | refine ARun.skip rfl (s1 := ⟨_::_::_::_::_::_::_::_::_::_::_::_::_::_::_::_::_::_::_::_::_::_::_::_::_::_::_::_::_::_::_::_::_::_::_::_::_::_::_::_::_::_::_::_::_::_::_::_::_::_::_::[],_::_::_::_::_::_::_::_::_::_::_::_::_::_::_::_::_::_::_::_::_::_::_::_::_::_::_::_::_::_::_::_::_::_::_::_::_::_::_::_::_::_::_::_::_::_::_::_::_::_::_::[]⟩) rfl ?_
    | refine ARun.valF rfl rfl rfl (s1 := ⟨_::_::_::_::_::_::_::_::_::_::_::_::_::_::_::_::_::_::_::_::_::_::_::_::_::_::_::_::_::_::_::_::_::_::_::_::_::_::_::_::_::_::_::_::_::_::_::_::_::_::_::[],_::_::_::_::_::_::_::_::_::_::_::_::_::_::_::_::_::_::_::_::_::_::_::_::_::_::_::_::_::_::_::_::_::_::_::_::_::_::_::_::_::_::_::_::_::_::_::_::_::_::_::[]⟩) rfl ?_ ?_
    | refine ARun.split rfl rfl (s1 := ⟨_::_::_::_::_::_::_::_::_::_::_::_::_::_::_::_::_::_::_::_::_::_::_::_::_::_::_::_::_::_::_::_::_::_::_::_::_::_::_::_::_::_::_::_::_::_::_::_::_::_::_::[],_::_::_::_::_::_::_::_::_::_::_::_::_::_::_::_::_::_::_::_::_::_::_::_::_::_::_::_::_::_::_::_::_::_::_::_::_::_::_::_::_::_::_::_::_::_::_::_::_::_::_::[]⟩) rfl (s2 := ⟨_::_::_::_::_::_::_::_::_::_::_::_::_::_::_::_::_::_::_::_::_::_::_::_::_::_::_::_::_::_::_::_::_::_::_::_::_::_::_::_::_::_::_::_::_::_::_::_::_::_::_::[],_::_::_::_::_::_::_::_::_::_::_::_::_::_::_::_::_::_::_::_::_::_::_::_::_::_::_::_::_::_::_::_::_::_::_::_::_::_::_::_::_::_::_::_::_::_::_::_::_::_::_::[]⟩) rfl (fun h => ?_) (fun h => ?_)
    | refine And.intro ?_ ?_
    | omega
    | (show _ < List.length _; omega)
    | exact rowlen_intro rfl
    | (simp only [AV.rowlenD, List.length_cons, List.length_nil]; omega))
  all_goals show FinC _ _ _ _
  all_goals refine FinC.mk' (r' := .tup [.int .i64 _, .int .i64 _]) rfl rfl ⟨trivial, trivial, trivial⟩ ?_
  all_goals (refine tup2 ?_ ?_ <;> simp only [colF, colT, lenL] <;> (repeat' split) <;> omega)

def rowT (ls : List (List UInt8)) (k fl fc tl tc i : Int) : List UInt8 := cutL (ls.getD i.toNat []) (some (colF ls k fl fc i).toNat) (some (colT ls k tl tc i).toNat)

/-- The rows from one line on, n of them. -/
def rowsT (ls : List (List UInt8)) (k fl fc tl tc : Int) : Nat → List (List UInt8)
  | 0 => []
  | n + 1 => rowsT ls k fl fc tl tc n ++ [rowT ls k fl fc tl tc (fl + n)]

def textL (ls : List (List UInt8)) (k fl fc tl tc : Int) : List (List UInt8) := if validL ls k fl fc tl tc = true then rowsT ls k fl fc tl tc (tl - fl + 1).toNat else []

theorem validL_spec {ls : List (List UInt8)} {k fl fc tl tc : Int} (h : validL ls k fl fc tl tc = true) : (0 ≤ fl ∧ fl ≤ tl ∧ tl < ls.length) ∧ (k = 0 ∧ (0 ≤ fc ∧ fc ≤ lenL ls fl) ∧ (0 ≤ tc ∧ tc ≤ lenL ls tl) ∧ (fl = tl → fc ≤ tc) ∨ k = 1 ∨ k = 2 ∧ 0 ≤ fc ∧ fc ≤ tc) := by
  simp only [validL, placeL, ltP, Bool.and_eq_true, Bool.or_eq_true, decide_eq_true_eq, Bool.not_eq_true', decide_eq_false_iff_not] at h
  refine ⟨h.1, ?_⟩
  unfold lenL
  rcases h.2 with (h | h) | h
  · refine .inl ⟨h.1, ?_⟩; omega
  · exact .inr (.inl h)
  · exact .inr (.inr h)

theorem cols_ok {ls : List (List UInt8)} {k fl fc tl tc i : Int} (h : validL ls k fl fc tl tc = true) (h1 : fl ≤ i) (h2 : i ≤ tl) : 0 ≤ colF ls k fl fc i ∧ colF ls k fl fc i ≤ colT ls k tl tc i ∧ colT ls k tl tc i ≤ lenL ls i := by
  obtain ⟨h3, h4⟩ := validL_spec h
  have h5 : 0 ≤ lenL ls i := Int.natCast_nonneg _
  have h6 : 0 ≤ lenL ls fl := Int.natCast_nonneg _
  have h7 : i = fl → lenL ls i = lenL ls fl := fun e => by rw [e]
  have h8 : i = tl → lenL ls i = lenL ls tl := fun e => by rw [e]
  unfold colF colT
  (repeat' split) <;> omega

theorem rowsT_length (ls : List (List UInt8)) (k fl fc tl tc : Int) : ∀ n, (rowsT ls k fl fc tl tc n).length = n
  | 0 => rfl
  | n + 1 => by simp [rowsT, rowsT_length ls k fl fc tl tc n]

theorem tail_row {α : Type} (l : List α) (x : α) : l.length + [x].length = (l ++ [x]).length := by simp

def sh29 (ls : List (List UInt8)) (k fl fc tl tc i : Int) (out : List (List UInt8)) : AState := ⟨.slS ls :: .junk :: .junk :: .ptr 3 0 :: .junk :: .own 39 out.length :: .int .i64 i :: .junk :: .junk :: .junk :: .junk :: .junk :: .junk :: .junk :: .junk :: .junk :: .junk :: .junk :: .junk :: .junk :: .junk :: .junk :: .junk :: .junk :: .junk :: .junk :: .junk :: .junk :: .junk :: .junk :: .junk :: .junk :: .junk :: .junk :: .junk :: .junk :: .junk :: .junk :: .junk :: .junk :: .junk :: [], none :: none :: none :: some ⟨true, false, .agg [.int .i64 k, .int .i64 fl, .int .i64 fc, .int .i64 tl, .int .i64 tc], 35⟩ :: none :: none :: none :: none :: none :: none :: none :: none :: none :: none :: none :: none :: none :: none :: none :: none :: none :: none :: none :: none :: none :: none :: none :: none :: none :: none :: none :: none :: none :: none :: none :: none :: none :: none :: none :: some ⟨true, true, .slS out, 9⟩ :: none :: []⟩

set_option maxRecDepth 10000 in
set_option maxHeartbeats 4000000 in
theorem p29 (ls : List (List UInt8)) (k fl fc tl tc : Int) (hL : ls.length ≤ 1000000000000) (hB : ∀ n : Nat, (ls.getD n []).length ≤ 1000000000000) : Pure Try.prog 29 [.slS ls, .agg [.int .i64 k, .int .i64 fl, .int .i64 fc, .int .i64 tl, .int .i64 tc]] (.slS (textL ls k fl fc tl tc)) := by
  refine Pure.ofC tab_ok Try.func29 rfl rfl [.tmp 4] rfl (by decide) rfl ?_
  repeat' (first
    | exact trivial
    | exact ⟨trivial, of_decide_eq_true rfl⟩
    | exact Nat.le_of_ble_eq_true rfl
    | (refine okTr_intro ?_; kernel_rfl)
    | refine Holds.seq ?_
    | refine Holds.region tabs ?_
    | refine Holds.drawn tabs ?_
    | refine Holds.ret ?_
    | refine Holds.skip ?_
    | refine Holds.exit ?_
    | refine Holds.block ?_
    | refine Holds.cond_true rfl ?_
    | refine Holds.cond_false rfl ?_
    | refine Holds.cond rfl (fun h => ?_) (fun h => ?_)
    | refine ARun.nil ?_
    | refine ARun.skip rfl (s1 := ⟨_::_::_::_::_::_::_::_::_::_::_::_::_::_::_::_::_::_::_::_::_::_::_::_::_::_::_::_::_::_::_::_::_::_::_::_::_::_::_::_::_::[],_::_::_::_::_::_::_::_::_::_::_::_::_::_::_::_::_::_::_::_::_::_::_::_::_::_::_::_::_::_::_::_::_::_::_::_::_::_::_::_::_::[]⟩) rfl ?_
    | refine ARun.valF rfl rfl rfl (s1 := ⟨_::_::_::_::_::_::_::_::_::_::_::_::_::_::_::_::_::_::_::_::_::_::_::_::_::_::_::_::_::_::_::_::_::_::_::_::_::_::_::_::_::[],_::_::_::_::_::_::_::_::_::_::_::_::_::_::_::_::_::_::_::_::_::_::_::_::_::_::_::_::_::_::_::_::_::_::_::_::_::_::_::_::_::[]⟩) rfl ?_ ?_
    | refine ARun.split rfl rfl (s1 := ⟨_::_::_::_::_::_::_::_::_::_::_::_::_::_::_::_::_::_::_::_::_::_::_::_::_::_::_::_::_::_::_::_::_::_::_::_::_::_::_::_::_::[],_::_::_::_::_::_::_::_::_::_::_::_::_::_::_::_::_::_::_::_::_::_::_::_::_::_::_::_::_::_::_::_::_::_::_::_::_::_::_::_::_::[]⟩) rfl (s2 := ⟨_::_::_::_::_::_::_::_::_::_::_::_::_::_::_::_::_::_::_::_::_::_::_::_::_::_::_::_::_::_::_::_::_::_::_::_::_::_::_::_::_::[],_::_::_::_::_::_::_::_::_::_::_::_::_::_::_::_::_::_::_::_::_::_::_::_::_::_::_::_::_::_::_::_::_::_::_::_::_::_::_::_::_::[]⟩) rfl (fun h => ?_) (fun h => ?_)
    | refine ARun.callB rfl rfl rfl rfl rfl rfl (p55 _ _ _ _ _ _) ?_ (s1 := ⟨_::_::_::_::_::_::_::_::_::_::_::_::_::_::_::_::_::_::_::_::_::_::_::_::_::_::_::_::_::_::_::_::_::_::_::_::_::_::_::_::_::[],_::_::_::_::_::_::_::_::_::_::_::_::_::_::_::_::_::_::_::_::_::_::_::_::_::_::_::_::_::_::_::_::_::_::_::_::_::_::_::_::_::[]⟩) rfl (s2 := ⟨_::_::_::_::_::_::_::_::_::_::_::_::_::_::_::_::_::_::_::_::_::_::_::_::_::_::_::_::_::_::_::_::_::_::_::_::_::_::_::_::_::[],_::_::_::_::_::_::_::_::_::_::_::_::_::_::_::_::_::_::_::_::_::_::_::_::_::_::_::_::_::_::_::_::_::_::_::_::_::_::_::_::_::[]⟩) rfl (fun h => ?_) (fun h => ?_)
    | refine And.intro ?_ ?_
    | omega
    | (show _ < List.length _; omega)
    | exact rowlen_intro rfl
    | (simp only [AV.rowlenD, List.length_cons, List.length_nil]; omega))
  · obtain ⟨hv1, hv2⟩ := validL_spec h
    refine Holds.loopF (fun x : Int × List (List UInt8) => sh29 ls k fl fc tl tc x.1 x.2) (fun x => (tl + 1 - x.1).toNat) (fun x => fl ≤ x.1 ∧ x.1 ≤ tl + 1 ∧ x.2 = rowsT ls k fl fc tl tc (x.1 - fl).toNat) (fl, []) ?_ ?_ ?_
    · refine (Weak.canon (s' := ⟨_::_::_::_::_::_::_::_::_::_::_::_::_::_::_::_::_::_::_::_::_::_::_::_::_::_::_::_::_::_::_::_::_::_::_::_::_::_::_::_::_::[],_::_::_::_::_::_::_::_::_::_::_::_::_::_::_::_::_::_::_::_::_::_::_::_::_::_::_::_::_::_::_::_::_::_::_::_::_::_::_::_::_::[]⟩) 5 39 9 (.slS []) rfl (fun i x h => by simp [AV.cell?] at h) rfl rfl rfl).trans ?_
      refine Weak.of ?_ ?_
      · repeat' (first | exact AVles.nil | exact AVle.junk _ | exact AVle.rfl' rfl | exact AVle.nilS | exact AVle.nilB | refine AVles.cons ?_ ?_)
      · repeat' (first | exact Oles.nil | refine Oles.gone ?_ | refine Oles.same ?_)
    · exact ⟨by simp, by simp; omega, by simp [rowsT]⟩
    · intro x hx
      obtain ⟨i, out⟩ := x
      obtain ⟨h1, h2, h3⟩ := hx
      simp only at h1 h2 h3
      have hlen : out.length = (i - fl).toNat := by rw [h3]; exact rowsT_length _ _ _ _ _ _ _
      have hc : i ≤ tl → 0 ≤ colF ls k fl fc i ∧ colF ls k fl fc i ≤ colT ls k tl tc i ∧ colT ls k tl tc i ≤ ((ls.getD i.toNat []).length : Int) := fun hi => cols_ok h h1 hi
      repeat' (first
        | exact trivial
        | exact ⟨trivial, of_decide_eq_true rfl⟩
        | exact Nat.le_of_ble_eq_true rfl
        | (refine okTr_intro ?_; kernel_rfl)
        | refine Holds.seq ?_
        | refine Holds.region tabs ?_
        | refine Holds.drawn tabs ?_
        | refine Holds.ret ?_
        | refine Holds.skip ?_
        | refine Holds.exit ?_
        | refine Holds.block ?_
        | refine Holds.cond_true rfl ?_
        | refine Holds.cond_false rfl ?_
        | refine Holds.cond rfl (fun h => ?_) (fun h => ?_)
        | refine ARun.nil ?_
        | refine ARun.skip rfl (s1 := ⟨_::_::_::_::_::_::_::_::_::_::_::_::_::_::_::_::_::_::_::_::_::_::_::_::_::_::_::_::_::_::_::_::_::_::_::_::_::_::_::_::_::[],_::_::_::_::_::_::_::_::_::_::_::_::_::_::_::_::_::_::_::_::_::_::_::_::_::_::_::_::_::_::_::_::_::_::_::_::_::_::_::_::_::[]⟩) rfl ?_
        | refine ARun.valF rfl rfl rfl (s1 := ⟨_::_::_::_::_::_::_::_::_::_::_::_::_::_::_::_::_::_::_::_::_::_::_::_::_::_::_::_::_::_::_::_::_::_::_::_::_::_::_::_::_::[],_::_::_::_::_::_::_::_::_::_::_::_::_::_::_::_::_::_::_::_::_::_::_::_::_::_::_::_::_::_::_::_::_::_::_::_::_::_::_::_::_::[]⟩) rfl ?_ ?_
        | refine ARun.split rfl rfl (s1 := ⟨_::_::_::_::_::_::_::_::_::_::_::_::_::_::_::_::_::_::_::_::_::_::_::_::_::_::_::_::_::_::_::_::_::_::_::_::_::_::_::_::_::[],_::_::_::_::_::_::_::_::_::_::_::_::_::_::_::_::_::_::_::_::_::_::_::_::_::_::_::_::_::_::_::_::_::_::_::_::_::_::_::_::_::[]⟩) rfl (s2 := ⟨_::_::_::_::_::_::_::_::_::_::_::_::_::_::_::_::_::_::_::_::_::_::_::_::_::_::_::_::_::_::_::_::_::_::_::_::_::_::_::_::_::[],_::_::_::_::_::_::_::_::_::_::_::_::_::_::_::_::_::_::_::_::_::_::_::_::_::_::_::_::_::_::_::_::_::_::_::_::_::_::_::_::_::[]⟩) rfl (fun h => ?_) (fun h => ?_)
        | refine ARun.callF rfl rfl rfl rfl rfl rfl (p56 _ _ _ _ _ _ _ (by omega) (by omega) hB (by omega)) ?_ (s1 := ⟨_::_::_::_::_::_::_::_::_::_::_::_::_::_::_::_::_::_::_::_::_::_::_::_::_::_::_::_::_::_::_::_::_::_::_::_::_::_::_::_::_::[],_::_::_::_::_::_::_::_::_::_::_::_::_::_::_::_::_::_::_::_::_::_::_::_::_::_::_::_::_::_::_::_::_::_::_::_::_::_::_::_::_::[]⟩) rfl ?_
        | refine And.intro ?_ ?_
        | omega
        | (show _ < List.length _; omega)
        | exact rowlen_intro rfl
        | (simp only [AV.rowlenD, List.length_cons, List.length_nil]; omega))
      · refine ⟨(i + 1, out ++ [rowT ls k fl fc tl tc i]), ⟨by simp only at *; omega, by simp only at *; omega, by simp only at *; omega, ?_⟩, ?_⟩
        · simp only
          rw [show (i + 1 - fl).toNat = (i - fl).toNat + 1 by omega, rowsT, ← h3, show fl + ((i - fl).toNat : Int) = i by omega]
        · refine Weak.of ?_ ?_
          · repeat' (first | exact AVles.nil | exact AVle.junk _ | exact AVle.rfl' rfl | exact AVle.nilS | exact AVle.nilB | exact AVle.rfl' (congrArg (AV.own 39) (tail_row _ _)) | refine AVles.cons ?_ ?_)
          · repeat' (first | exact Oles.nil | refine Oles.gone ?_ | refine Oles.same ?_)
      · refine FinC.mk' (r' := .slS _) rfl rfl ⟨rfl, trivial⟩ (congrArg AV.slS ?_)
        simp only at *
        rw [textL, if_pos ‹_›, h3, show i = tl + 1 by omega, show tl + 1 - fl = tl - fl + 1 by omega]
  · exact FinC.le (r' := .nilsl) rfl rfl trivial (by rw [textL, h]; exact AVle.nilS)

end Go.Proofs.Ytefbgdnobnemkaa.AM
