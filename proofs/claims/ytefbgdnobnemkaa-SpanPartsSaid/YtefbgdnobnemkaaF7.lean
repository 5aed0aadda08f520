/-
  The law of the whole text.
-/
import Derived.Test.YtefbgdnobnemkaaF6
namespace Go.Proofs.Ytefbgdnobnemkaa.AM
open Go Go.RowKit

theorem light_len {ls : List (List UInt8)} (h : (decide (0 < (ls.length : Int)) && lightL ls) = true) : 0 < (ls.length : Int) ∧ ls.length ≤ 40 ∧ ∀ n : Nat, (ls.getD n []).length ≤ 1200 := by
  simp only [lightL, Bool.and_eq_true, decide_eq_true_eq] at h
  refine ⟨h.1, h.2.1.1, fun n => ?_⟩
  rcases Nat.lt_or_ge n ls.length with hn | hn
  · have h1 := sumL_take ls n hn
    have h2 := sumL_le ls (n + 1)
    omega
  · simp [hn]

theorem rowsT_all {ls : List (List UInt8)} {k fc tl tc : Int} : ∀ n : Nat, n ≤ ls.length → (∀ i : Nat, i < n → rowT ls k 0 fc tl tc i = ls.getD i []) → rowsT ls k 0 fc tl tc n = ls.take n
  | 0, _, _ => rfl
  | n + 1, hn, h => by
    have hlt : n < ls.length := by omega
    rw [rowsT, rowsT_all n (by omega) fun i hi => h i (by omega), Int.zero_add, h n (by omega), List.take_add_one (l := ls), List.getElem?_eq_getElem hlt, show ls.getD n [] = ls[n] by simp [hlt]]
    rfl

theorem rowT_full {ls : List (List UInt8)} {k fc tl tc i : Int} (h1 : colF ls k 0 fc i = 0) (h2 : colT ls k tl tc i = lenL ls i) : rowT ls k 0 fc tl tc i = ls.getD i.toNat [] := by
  unfold rowT
  rw [h1, h2]
  simp [cutL, lenL]

theorem text_whole {ls : List (List UInt8)} {k tc : Int} (h0 : 0 < (ls.length : Int)) (hb : ∀ n : Nat, (ls.getD n []).length ≤ 1200)
    (hk : k = 0 ∧ tc = lenL ls ((ls.length : Int) - 1) ∨ k = 1 ∨ k = 2 ∧ 1200 ≤ tc) : textL ls k 0 0 ((ls.length : Int) - 1) tc = ls := by
  have hpos : ∀ i, 0 ≤ lenL ls i := fun i => Int.natCast_nonneg _
  have hle : ∀ i, lenL ls i ≤ 1200 := fun i => by unfold lenL; have := hb i.toNat; omega
  have hv : validL ls k 0 0 ((ls.length : Int) - 1) tc = true := by
    have e1 : decide (0 ≤ (0 : Int) ∧ 0 ≤ (ls.length : Int) - 1 ∧ (ls.length : Int) - 1 < ls.length) = true := decide_eq_true (by omega)
    unfold validL
    rw [e1, Bool.true_and]
    have h3 := hpos 0
    have h4 := hpos ((ls.length : Int) - 1)
    unfold lenL at h3 h4 hk
    rcases hk with ⟨rfl, hk⟩ | rfl | ⟨rfl, hk⟩
    · have e2 : placeL ls 0 0 = true := decide_eq_true (by omega)
      have e3 : placeL ls ((ls.length : Int) - 1) tc = true := decide_eq_true (by omega)
      have e4 : ltP ((ls.length : Int) - 1) tc 0 0 = false := decide_eq_false (by omega)
      rw [e2, e3, e4]; rfl
    · rfl
    · rw [decide_eq_true (p := (2 : Int) = 2 ∧ 0 ≤ (0 : Int) ∧ 0 ≤ tc) (by omega)]
      simp
  unfold textL
  rw [if_pos hv]
  have hn : ((ls.length : Int) - 1 - 0 + 1).toNat = ls.length := by omega
  rw [hn, rowsT_all ls.length (Nat.le_refl _) fun i hi => ?_, List.take_length]
  have h3 := hpos i
  have h4 := hle i
  have h5 : (i : Int) = (ls.length : Int) - 1 → lenL ls i = lenL ls ((ls.length : Int) - 1) := fun e => by rw [e]
  refine (rowT_full ?_ ?_).trans (by simp)
  · unfold colF; (repeat' split) <;> omega
  · unfold colT; (repeat' split) <;> omega

section
variable (ls : List (List UInt8)) (h : (decide (0 < (ls.length : Int)) && lightL ls) = true)
include h
theorem w29a : Pure Try.prog 29 [.slS ls, .agg [.int .i64 0, .int .i64 0, .int .i64 0, .int .i64 ((ls.length : Int) - 1), .int .i64 ((ls.getD ((ls.length : Int) - 1).toNat []).length : Int)]] (.slS ls) := by
  obtain ⟨h0, h1, h2⟩ := light_len h
  have := p29 ls 0 0 0 ((ls.length : Int) - 1) ((ls.getD ((ls.length : Int) - 1).toNat []).length : Int) (by omega) (fun n => by have := h2 n; omega)
  have e := text_whole (k := 0) (tc := ((ls.getD ((ls.length : Int) - 1).toNat []).length : Int)) h0 h2 (.inl ⟨rfl, rfl⟩)
  rwa [e] at this
theorem w29b : Pure Try.prog 29 [.slS ls, .agg [.int .i64 1, .int .i64 0, .int .i64 0, .int .i64 ((ls.length : Int) - 1), .int .i64 0]] (.slS ls) := by
  obtain ⟨h0, h1, h2⟩ := light_len h
  have := p29 ls 1 0 0 ((ls.length : Int) - 1) 0 (by omega) (fun n => by have := h2 n; omega)
  rwa [text_whole h0 h2 (.inr (.inl rfl))] at this
theorem w29c : Pure Try.prog 29 [.slS ls, .agg [.int .i64 2, .int .i64 0, .int .i64 0, .int .i64 ((ls.length : Int) - 1), .int .i64 1048576]] (.slS ls) := by
  obtain ⟨h0, h1, h2⟩ := light_len h
  have := p29 ls 2 0 0 ((ls.length : Int) - 1) 1048576 (by omega) (fun n => by have := h2 n; omega)
  rwa [text_whole h0 h2 (.inr (.inr ⟨rfl, by omega⟩))] at this
theorem w30 : Pure Try.prog 30 [.slS ls, .slS ls] (.bool true) := by
  obtain ⟨h0, h1, h2⟩ := light_len h
  have := p30 ls ls (by omega)
  rwa [decide_eq_true rfl] at this
end

set_option maxRecDepth 10000 in
set_option maxHeartbeats 4000000 in
theorem p5 (ls : List (List UInt8)) (hL : ls.length ≤ 140737488355328) (hB : ∀ n : Nat, (ls.getD n []).length ≤ 140737488355328) : Pure Try.prog 5 [.slS ls] (.bool true) := by
  refine Pure.ofC tab_ok Try.func5 rfl rfl [.tmp 2] rfl (by decide) rfl ?_
  repeat' (first
    | exact trivial
    | exact absurd rfl h
    | exact ⟨trivial, of_decide_eq_true rfl⟩
    | exact Nat.le_of_ble_eq_true rfl
    | (refine okTr_intro ?_; kernel_rfl)
    | refine Holds.seq ?_
    | refine Holds.region tabs ?_
    | refine Holds.drawn tabs ?_
    | refine Holds.ret ?_
    | refine Holds.skip ?_
    | refine Holds.exit ?_
    | refine Holds.block ?_
    | refine Holds.cond_true rfl ?_
    | refine Holds.cond_false rfl ?_
    | refine Holds.cond rfl (fun h => ?_) (fun h => ?_)
    | refine ARun.nil ?_
    | refine ARun.skip rfl (s1 := ⟨_::_::_::_::_::_::_::_::_::_::_::_::_::_::_::_::_::_::_::_::_::_::_::_::_::_::_::_::_::_::_::_::_::_::_::_::_::_::_::_::_::_::_::_::_::_::_::_::[],_::_::_::_::_::_::_::_::_::_::_::_::_::_::_::_::_::_::_::_::_::_::_::_::_::_::_::_::_::_::_::_::_::_::_::_::_::_::_::_::_::_::_::_::_::_::_::_::[]⟩) rfl ?_
    | refine ARun.valF rfl rfl rfl (s1 := ⟨_::_::_::_::_::_::_::_::_::_::_::_::_::_::_::_::_::_::_::_::_::_::_::_::_::_::_::_::_::_::_::_::_::_::_::_::_::_::_::_::_::_::_::_::_::_::_::_::[],_::_::_::_::_::_::_::_::_::_::_::_::_::_::_::_::_::_::_::_::_::_::_::_::_::_::_::_::_::_::_::_::_::_::_::_::_::_::_::_::_::_::_::_::_::_::_::_::[]⟩) rfl ?_ ?_
    | refine ARun.testE rfl rfl (s1 := ⟨_::_::_::_::_::_::_::_::_::_::_::_::_::_::_::_::_::_::_::_::_::_::_::_::_::_::_::_::_::_::_::_::_::_::_::_::_::_::_::_::_::_::_::_::_::_::_::_::[],_::_::_::_::_::_::_::_::_::_::_::_::_::_::_::_::_::_::_::_::_::_::_::_::_::_::_::_::_::_::_::_::_::_::_::_::_::_::_::_::_::_::_::_::_::_::_::_::[]⟩) rfl ?_
    | refine ARun.testEE rfl rfl (s1 := ⟨_::_::_::_::_::_::_::_::_::_::_::_::_::_::_::_::_::_::_::_::_::_::_::_::_::_::_::_::_::_::_::_::_::_::_::_::_::_::_::_::_::_::_::_::_::_::_::_::[],_::_::_::_::_::_::_::_::_::_::_::_::_::_::_::_::_::_::_::_::_::_::_::_::_::_::_::_::_::_::_::_::_::_::_::_::_::_::_::_::_::_::_::_::_::_::_::_::[]⟩) rfl ?_
    | refine ARun.split rfl rfl (s1 := ⟨_::_::_::_::_::_::_::_::_::_::_::_::_::_::_::_::_::_::_::_::_::_::_::_::_::_::_::_::_::_::_::_::_::_::_::_::_::_::_::_::_::_::_::_::_::_::_::_::[],_::_::_::_::_::_::_::_::_::_::_::_::_::_::_::_::_::_::_::_::_::_::_::_::_::_::_::_::_::_::_::_::_::_::_::_::_::_::_::_::_::_::_::_::_::_::_::_::[]⟩) rfl (s2 := ⟨_::_::_::_::_::_::_::_::_::_::_::_::_::_::_::_::_::_::_::_::_::_::_::_::_::_::_::_::_::_::_::_::_::_::_::_::_::_::_::_::_::_::_::_::_::_::_::_::[],_::_::_::_::_::_::_::_::_::_::_::_::_::_::_::_::_::_::_::_::_::_::_::_::_::_::_::_::_::_::_::_::_::_::_::_::_::_::_::_::_::_::_::_::_::_::_::_::[]⟩) rfl (fun h => ?_) (fun h => ?_)
    | refine ARun.callF rfl rfl rfl rfl rfl rfl p22 ?_ (s1 := ⟨_::_::_::_::_::_::_::_::_::_::_::_::_::_::_::_::_::_::_::_::_::_::_::_::_::_::_::_::_::_::_::_::_::_::_::_::_::_::_::_::_::_::_::_::_::_::_::_::[],_::_::_::_::_::_::_::_::_::_::_::_::_::_::_::_::_::_::_::_::_::_::_::_::_::_::_::_::_::_::_::_::_::_::_::_::_::_::_::_::_::_::_::_::_::_::_::_::[]⟩) rfl ?_
    | refine ARun.callB rfl rfl rfl rfl rfl rfl (p27 _ hL hB) ?_ (s1 := ⟨_::_::_::_::_::_::_::_::_::_::_::_::_::_::_::_::_::_::_::_::_::_::_::_::_::_::_::_::_::_::_::_::_::_::_::_::_::_::_::_::_::_::_::_::_::_::_::_::[],_::_::_::_::_::_::_::_::_::_::_::_::_::_::_::_::_::_::_::_::_::_::_::_::_::_::_::_::_::_::_::_::_::_::_::_::_::_::_::_::_::_::_::_::_::_::_::_::[]⟩) rfl (s2 := ⟨_::_::_::_::_::_::_::_::_::_::_::_::_::_::_::_::_::_::_::_::_::_::_::_::_::_::_::_::_::_::_::_::_::_::_::_::_::_::_::_::_::_::_::_::_::_::_::_::[],_::_::_::_::_::_::_::_::_::_::_::_::_::_::_::_::_::_::_::_::_::_::_::_::_::_::_::_::_::_::_::_::_::_::_::_::_::_::_::_::_::_::_::_::_::_::_::_::[]⟩) rfl (fun h => ?_) (fun h => ?_)
    | refine ARun.callF rfl rfl rfl rfl rfl rfl (w29a _ (by assumption)) ?_ (s1 := ⟨_::_::_::_::_::_::_::_::_::_::_::_::_::_::_::_::_::_::_::_::_::_::_::_::_::_::_::_::_::_::_::_::_::_::_::_::_::_::_::_::_::_::_::_::_::_::_::_::[],_::_::_::_::_::_::_::_::_::_::_::_::_::_::_::_::_::_::_::_::_::_::_::_::_::_::_::_::_::_::_::_::_::_::_::_::_::_::_::_::_::_::_::_::_::_::_::_::[]⟩) rfl ?_
    | refine ARun.callF rfl rfl rfl rfl rfl rfl (w29b _ (by assumption)) ?_ (s1 := ⟨_::_::_::_::_::_::_::_::_::_::_::_::_::_::_::_::_::_::_::_::_::_::_::_::_::_::_::_::_::_::_::_::_::_::_::_::_::_::_::_::_::_::_::_::_::_::_::_::[],_::_::_::_::_::_::_::_::_::_::_::_::_::_::_::_::_::_::_::_::_::_::_::_::_::_::_::_::_::_::_::_::_::_::_::_::_::_::_::_::_::_::_::_::_::_::_::_::[]⟩) rfl ?_
    | refine ARun.callF rfl rfl rfl rfl rfl rfl (w29c _ (by assumption)) ?_ (s1 := ⟨_::_::_::_::_::_::_::_::_::_::_::_::_::_::_::_::_::_::_::_::_::_::_::_::_::_::_::_::_::_::_::_::_::_::_::_::_::_::_::_::_::_::_::_::_::_::_::_::[],_::_::_::_::_::_::_::_::_::_::_::_::_::_::_::_::_::_::_::_::_::_::_::_::_::_::_::_::_::_::_::_::_::_::_::_::_::_::_::_::_::_::_::_::_::_::_::_::[]⟩) rfl ?_
    | refine ARun.callF rfl rfl rfl rfl rfl rfl (w30 _ (by assumption)) ?_ (s1 := ⟨_::_::_::_::_::_::_::_::_::_::_::_::_::_::_::_::_::_::_::_::_::_::_::_::_::_::_::_::_::_::_::_::_::_::_::_::_::_::_::_::_::_::_::_::_::_::_::_::[],_::_::_::_::_::_::_::_::_::_::_::_::_::_::_::_::_::_::_::_::_::_::_::_::_::_::_::_::_::_::_::_::_::_::_::_::_::_::_::_::_::_::_::_::_::_::_::_::[]⟩) rfl ?_
    | (obtain ⟨h0, h1, h2⟩ := light_len (by assumption); omega)
    | (obtain ⟨h0, h1, h2⟩ := light_len (by assumption); show _ < List.length _; omega)
    | refine And.intro ?_ ?_
    | omega
    | (show _ < List.length _; omega)
    | exact rowlen_intro rfl
    | (simp only [AV.rowlenD, List.length_cons, List.length_nil]; omega))
  all_goals exact FinC.mk' (tab := tab) (r' := .bool true) rfl rfl trivial rfl

end Go.Proofs.Ytefbgdnobnemkaa.AM
