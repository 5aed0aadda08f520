/-
  Line breaks that are typed.
-/
import Derived.Test.YtefbgdnobnemkaaF19
set_option linter.unusedSimpArgs false
set_option linter.unusedVariables false
set_option linter.unusedSectionVars false
namespace Go.Proofs.Ytefbgdnobnemkaa.AM
open Go Go.RowKit

/-- Line breaks that are typed: what stands ahead of the last part. -/
def brkA (ls : List (List UInt8)) (l c j : Nat) : List (List UInt8) := ls.take l ++ (ls.getD l []).take c :: List.replicate j []
def brkL (ls : List (List UInt8)) (l c j : Nat) : List (List UInt8) := brkA ls l c j ++ (ls.getD l []).drop c :: ls.drop (l + 1)

theorem brkA_len {ls : List (List UInt8)} {l c j : Nat} (h : l < ls.length) : (brkA ls l c j).length = l + j + 1 := by
  unfold brkA; rw [List.length_append, List.length_take, List.length_cons, List.length_replicate]; omega
theorem brkA_succ (ls : List (List UInt8)) (l c j : Nat) : brkA ls l c j ++ [[]] = brkA ls l c (j + 1) := by
  unfold brkA
  rw [List.append_assoc, List.cons_append, List.replicate_succ']

theorem typed_breaks {ls : List (List UInt8)} {l c : Int} {ks : List UInt8} (hp : placeL ls l c = true) (hk : ∀ k ∈ ks, (k.toNat : Int) = 13 ∨ (k.toNat : Int) = 10) : ∀ j : Nat, j + 1 ≤ ks.length →
    typedL ls l c (ks.take (j + 1)) = some ⟨brkL ls l.toNat c.toNat j, l + j + 1, 0⟩ := by
  obtain ⟨h0, h1, h2, h3⟩ := place_of hp
  have hlt : l.toNat < ls.length := by omega
  have mem : ∀ j : Nat, j < ks.length → ks.getD j 0 ∈ ks := fun j hj => by simp [List.getD_eq_getElem?_getD, hj]
  intro j
  induction j with
  | zero =>
    intro hj
    rw [typedL_succ _ _ _ _ _ (by omega), List.take_zero, show typedL ls l c [] = some ⟨ls, l, c⟩ from rfl, step_break hp (hk _ (mem 0 (by omega)))]
    simp [brkL, brkA]
  | succ j ih =>
    intro hj
    have hlen : (brkA ls l.toNat c.toNat j).length = l.toNat + j + 1 := brkA_len hlt
    have hn : (l + (j : Nat) + 1 : Int).toNat = (brkA ls l.toNat c.toNat j).length := by omega
    have hg : (brkL ls l.toNat c.toNat j).getD (l + (j : Nat) + 1 : Int).toNat [] = (ls.getD l.toNat []).drop c.toNat := by
      rw [hn]; unfold brkL; simp
    rw [typedL_succ _ _ _ _ _ (by omega), ih (by omega), step_break (place_mk ⟨by omega, ?_, by omega, by omega⟩) (hk _ (mem (j + 1) (by omega))), hg, hn]
    · simp only [Option.some.injEq, TdR.mk.injEq]
      refine ⟨?_, by omega, trivial⟩
      unfold brkL
      rw [List.take_left, ← List.drop_drop, List.drop_left, ← brkA_succ]
      simp
    · unfold brkL
      rw [List.length_append, List.length_cons, hlen]
      omega

theorem brk_facts {ls : List (List UInt8)} {l c : Int} {k : Int} {ks : List UInt8} (hp : placeL ls l c = true) (hk : ∀ k ∈ ks, (k.toNat : Int) = 13 ∨ (k.toNat : Int) = 10) (hkl : (ks.length : Int) = k) (hk4 : k ≤ 4) (hl : ls.length ≤ 40) (hr : ∀ n : Nat, (ls.getD n []).length ≤ 1200) :
    ∃ (N : List (List UInt8)) (L C : Int), typedL ls l c ks = some ⟨N, L, C⟩ ∧ (N.length : Int) = ls.length + k ∧ (0 < k → L = l + k ∧ C = 0) ∧ typeL N L C l c 1 8 = tyNo ∧
      (0 < k → N.getD l.toNat [] = cutL (ls.getD l.toNat []) none (some c.toNat) ∧ N.getD (l + k).toNat [] = cutL (ls.getD l.toNat []) (some c.toNat) none) ∧ N.length ≤ 1000 ∧ ∀ n : Nat, (N.getD n []).length ≤ 1200 := by
  obtain ⟨h0, h1, h2, h3⟩ := place_of hp
  have hlt : l.toNat < ls.length := by omega
  have no : ∀ (N : List (List UInt8)) (L C : Int), (C = 0 ∨ (L = l ∧ C ≤ c)) → typeL N L C l c 1 8 = tyNo := fun N L C h => by
    unfold typeL
    split
    · rw [if_neg (by decide), if_neg (by decide), if_neg (fun hh => by omega)]
    · rfl
  rcases Nat.eq_zero_or_pos ks.length with hz | hz
  · have : ks = [] := List.eq_nil_of_length_eq_zero hz
    subst this
    refine ⟨ls, l, c, rfl, by simp at hkl; omega, fun h => by simp at hkl; omega, no _ _ _ (.inr ⟨rfl, Int.le_refl _⟩), fun h => by simp at hkl; omega, by omega, hr⟩
  · obtain ⟨j, hj⟩ : ∃ j, ks.length = j + 1 := ⟨ks.length - 1, by omega⟩
    have ht := typed_breaks hp hk j (by omega)
    rw [← hj, List.take_length] at ht
    have hlen : (brkA ls l.toNat c.toNat j).length = l.toNat + j + 1 := brkA_len hlt
    have hN : (brkL ls l.toNat c.toNat j).length = ls.length + j + 1 := by
      unfold brkL; rw [List.length_append, List.length_cons, hlen, List.length_drop]; omega
    refine ⟨_, _, _, ht, by omega, fun _ => ⟨by omega, rfl⟩, no _ _ _ (.inl rfl), fun _ => ⟨?_, ?_⟩, by omega, ?_⟩
    · unfold brkL brkA cutL
      rw [List.getD_eq_getElem?_getD, List.append_assoc, List.getElem?_append_right (by rw [List.length_take]; omega), List.length_take, Nat.min_eq_left (by omega), Nat.sub_self]
      rfl
    · have hn : (l + k : Int).toNat = (brkA ls l.toNat c.toNat j).length := by omega
      rw [hn]; unfold brkL cutL; simp
    · have hx := hr l.toNat
      have hd : ∀ n : Nat, ((ls.drop (l.toNat + 1)).getD n []).length ≤ 1200 := fun n => by
        simp only [List.getD_eq_getElem?_getD, List.getElem?_drop]
        have := hr (l.toNat + 1 + n)
        rwa [List.getD_eq_getElem?_getD] at this
      have hcons : ∀ (x : List UInt8) (y : List (List UInt8)), x.length ≤ 1200 → (∀ n : Nat, (y.getD n []).length ≤ 1200) → ∀ n : Nat, ((x :: y).getD n []).length ≤ 1200 := fun x y h1 h2 n => by
        match n with
        | 0 => simpa using h1
        | n + 1 => simpa using h2 n
      refine getD_append_le (getD_append_le ?_ (hcons _ _ (by rw [List.length_take]; omega) ?_)) (hcons _ _ (by rw [List.length_drop]; omega) hd)
      · exact getD_cut_le (x := ls) hr none (some l.toNat)
      · intro n
        rw [List.getD_eq_getElem?_getD, List.getElem?_replicate]
        split <;> simp

/-- Bytes that are being made line breaks. -/
def fillL (k i : Nat) : List UInt8 := List.replicate i 13 ++ List.replicate (k - i) 0
theorem fillL_len {k i : Nat} (h : i ≤ k) : (fillL k i).length = k := by simp [fillL]; omega
theorem fillL_set {k i : Nat} (h : i < k) : (fillL k i).set i 13 = fillL k (i + 1) := by
  unfold fillL
  rw [List.set_append_right _ _ (by simp), List.length_replicate, Nat.sub_self, show k - i = (k - (i + 1)) + 1 by omega, List.replicate_succ, List.set_cons_zero, List.replicate_succ', List.append_assoc]
  rfl
theorem fillL_all {k : Nat} : ∀ x ∈ fillL k k, ((x : UInt8).toNat : Int) = 13 ∨ (x.toNat : Int) = 10 := fun x hx => by
  simp [fillL] at hx
  rw [hx.2]; exact .inl rfl

def sh11 (ls : List (List UInt8)) (a b n l c k i : Int) : TS := ⟨119, 7, (.node (.node (.node (.node (.node (.node (.node (.leaf (.slS ls)) (J 0)) (J 1)) (J 2)) (.node (.node (.node (.leaf (.bool false)) (J 0)) (J 1)) (J 2))) (.node (J 3) (.node (.node (.node (.leaf (.int .i64 i)) (J 0)) (J 1)) (J 2)))) (.node (.node (.node (.node (.node (.leaf (.int .u16 b)) (J 0)) (J 1)) (J 2)) (.node (.node (.node (.leaf (.int .i64 k)) (J 0)) (J 1)) (J 2))) (J 4))) (.node (.node (.node (.node (.node (.node (.leaf (.int .u16 a)) (J 0)) (J 1)) (J 2)) (.node (.node (.node (.leaf (.ptr 9 0)) (J 0)) (J 1)) (J 2))) (J 4)) (.node (.node (.node (.node (.node (.leaf (.int .u8 n)) (J 0)) (J 1)) (J 2)) (.node (.node (.node (.leaf (.own 33 k.toNat)) (J 0)) (J 1)) (J 2))) (J 4)))), (.node (OO 6) (.node (.node (.node (.node (.node (OO 1) (.node (.leaf (some ⟨true, true, .slB (fillL k.toNat i.toNat), 5⟩)) (OO 0))) (OO 2)) (.node (.node (.node (.leaf (some ⟨true, false, .agg [.int .i64 l, .int .i64 c], 23⟩)) (OO 0)) (OO 1)) (OO 2))) (OO 4)) (OO 5)))⟩

section
variable (ls : List (List UInt8)) (a b n : Int) (hL : ls.length ≤ 140737488355328) (hB : ∀ n : Nat, (ls.getD n []).length ≤ 140737488355328)
include hL hB
set_option maxRecDepth 10000 in
set_option maxHeartbeats 8000000 in
theorem p11 (ha : inK .u16 a) (hb : inK .u16 b) (hn : inK .u8 n) : Pure Try.prog 11 [.slS ls, .int .u16 a, .int .u16 b, .int .u8 n] (.bool true) := by
  have k27 := p27 ls hL hB
  cases hok : (decide (0 < (ls.length : Int)) && lightL ls) with
  | false =>
    rw [hok] at k27
    refine Pure.ofT tab_ok Try.func11 rfl rfl [.tmp 8] rfl (by decide) rfl ⟨119, 7, (.node (.node (.node (.node (.node (.node (.node (.leaf (.slS ls)) (J 0)) (J 1)) (J 2)) (J 3)) (J 4)) (.node (.node (.node (.node (.node (.leaf (.int .u16 b)) (J 0)) (J 1)) (J 2)) (J 3)) (J 4))) (.node (.node (.node (.node (.node (.node (.leaf (.int .u16 a)) (J 0)) (J 1)) (J 2)) (J 3)) (J 4)) (.node (.node (.node (.node (.node (.leaf (.int .u8 n)) (J 0)) (J 1)) (J 2)) (J 3)) (J 4)))), (OO 7)⟩ (by kernel_rfl) (by kernel_rfl) ?_
    repeat' (first
      | refine allProp_T ?_
      | exact trivial
      | (refine URun.id ?_; first
          | refine URun.nil ?_
          | refine URun.many tabs rfl rfl (by kernel_rfl) ?_ ?_
          | (refine URun.toCall 34 rfl ?_; first
            | refine URun.call tabs rfl rfl rfl rfl p34 rfl rfl ?_ rfl ?_)
          | (refine URun.toCall 27 rfl ?_; first
            | refine URun.call tabs rfl rfl rfl rfl k27 rfl rfl ?_ rfl ?_)
          | refine URun.same tabs rfl rfl rfl ?_
          | refine URun.same2 tabs rfl rfl rfl ?_
          | refine URun.split tabs rfl rfl rfl rfl (fun h => ?_) (fun h => ?_))
      | (refine TRun.id ?_; first
          | refine TRun.nil ?_
          | refine TRun.many rfl rfl (by kernel_rfl) ?_ ?_
          | (refine TRun.toCall 34 rfl ?_; first
            | refine TRun.call rfl rfl rfl rfl p34 rfl rfl ?_ rfl ?_)
          | (refine TRun.toCall 27 rfl ?_; first
            | refine TRun.call rfl rfl rfl rfl k27 rfl rfl ?_ rfl ?_)
          | refine TRun.same rfl rfl rfl ?_
          | refine TRun.same2 rfl rfl rfl ?_
          | refine TRun.split rfl rfl rfl rfl (fun h => ?_) (fun h => ?_))
      | (refine HoldsT.id ?_; first
          | refine HoldsT.seq ?_
          | refine HoldsT.regionU ?_
          | refine HoldsT.drawn tabs ?_
          | refine HoldsT.yes rfl ?_
          | refine HoldsT.no rfl ?_
          | refine HoldsT.cond rfl (fun h => ?_) (fun h => ?_)
          | refine HoldsT.block ?_
          | refine HoldsT.ret ?_
          | refine HoldsT.skip ?_
          | refine HoldsT.exit ?_)
      | (refine okTr_intro ?_; kernel_rfl)
      | exact absurd rfl h
      | refine allProp_C ?_ ?_
      | refine And.intro ?_ ?_
      | omega
      | (show _ < List.length _; omega)
      | exact rowlen_intro rfl
      | exact lenEq_intro rfl
      | exact Nat.le_of_ble_eq_true rfl
      | (simp only [AV.rowlenD, AV.rowlen, AV.ncells, mulSz, toN, Option.map_some, Option.map_none, cutL, List.length_take, List.length_drop, List.length_append, List.length_cons, List.length_nil, List.length_set, Option.some.injEq, Int.reduceToNat] <;> omega))
    all_goals exact FinC.te (y := .bool true) rfl rfl trivial rfl
  | true =>
    rw [hok] at k27
    obtain ⟨h0, hl, hr⟩ := light_len hok
    have k28 := p28 ls a b h0 ha hb hB
    have hp := place_ok (ls := ls) h0 ha.1 hb.1
    generalize plL ls a = l at k28 hp
    generalize plC ls a b = c at k28 hp
    obtain ⟨hp1, hp2, hp3, hp4⟩ := place_of hp
    have hr1 := hr l.toNat
    have hk0 : 0 ≤ n.tmod 5 := Int.tmod_nonneg 5 hn.1
    have hk1 : n.tmod 5 < 5 := Int.tmod_lt_of_pos n (by decide)
    refine Pure.ofT tab_ok Try.func11 rfl rfl [.tmp 8] rfl (by decide) rfl ⟨119, 7, (.node (.node (.node (.node (.node (.node (.node (.leaf (.slS ls)) (J 0)) (J 1)) (J 2)) (J 3)) (J 4)) (.node (.node (.node (.node (.node (.leaf (.int .u16 b)) (J 0)) (J 1)) (J 2)) (J 3)) (J 4))) (.node (.node (.node (.node (.node (.node (.leaf (.int .u16 a)) (J 0)) (J 1)) (J 2)) (J 3)) (J 4)) (.node (.node (.node (.node (.node (.leaf (.int .u8 n)) (J 0)) (J 1)) (J 2)) (J 3)) (J 4)))), (OO 7)⟩ (by kernel_rfl) (by kernel_rfl) ?_
    repeat' (first
      | refine allProp_T ?_
      | exact trivial
      | (refine URun.id ?_; first
          | refine URun.nil ?_
          | refine URun.many tabs rfl rfl (by kernel_rfl) ?_ ?_
          | (refine URun.toCall 34 rfl ?_; first
            | refine URun.call tabs rfl rfl rfl rfl p34 rfl rfl ?_ rfl ?_)
          | (refine URun.toCall 27 rfl ?_; first
            | refine URun.call tabs rfl rfl rfl rfl k27 rfl rfl ?_ rfl ?_)
          | (refine URun.toCall 28 rfl ?_; first
            | refine URun.call tabs rfl rfl rfl rfl k28 rfl rfl ?_ rfl ?_)
          | refine URun.same tabs rfl rfl rfl ?_
          | refine URun.same2 tabs rfl rfl rfl ?_
          | refine URun.split tabs rfl rfl rfl rfl (fun h => ?_) (fun h => ?_))
      | (refine TRun.id ?_; first
          | refine TRun.nil ?_
          | refine TRun.many rfl rfl (by kernel_rfl) ?_ ?_
          | (refine TRun.toCall 34 rfl ?_; first
            | refine TRun.call rfl rfl rfl rfl p34 rfl rfl ?_ rfl ?_)
          | (refine TRun.toCall 27 rfl ?_; first
            | refine TRun.call rfl rfl rfl rfl k27 rfl rfl ?_ rfl ?_)
          | (refine TRun.toCall 28 rfl ?_; first
            | refine TRun.call rfl rfl rfl rfl k28 rfl rfl ?_ rfl ?_)
          | refine TRun.same rfl rfl rfl ?_
          | refine TRun.same2 rfl rfl rfl ?_
          | refine TRun.split rfl rfl rfl rfl (fun h => ?_) (fun h => ?_))
      | (refine HoldsT.id ?_; first
          | refine HoldsT.seq ?_
          | refine HoldsT.regionU ?_
          | refine HoldsT.drawn tabs ?_
          | refine HoldsT.yes rfl ?_
          | refine HoldsT.no rfl ?_
          | refine HoldsT.cond rfl (fun h => ?_) (fun h => ?_)
          | refine HoldsT.block ?_
          | refine HoldsT.ret ?_
          | refine HoldsT.skip ?_
          | refine HoldsT.exit ?_)
      | (refine okTr_intro ?_; kernel_rfl)
      | exact absurd rfl h
      | refine allProp_C ?_ ?_
      | refine And.intro ?_ ?_
      | omega
      | (show _ < List.length _; omega)
      | exact rowlen_intro rfl
      | exact lenEq_intro rfl
      | exact Nat.le_of_ble_eq_true rfl
      | (simp only [AV.rowlenD, AV.rowlen, AV.ncells, mulSz, toN, Option.map_some, Option.map_none, cutL, List.length_take, List.length_drop, List.length_append, List.length_cons, List.length_nil, List.length_set, Option.some.injEq, Int.reduceToNat] <;> omega))
    generalize n.tmod 5 = k at hk0 hk1 ⊢
    obtain ⟨N, L', C', e1, e2, e3, e4, e5, e6, e7⟩ := brk_facts (ls := ls) (l := l) (c := c) (k := k) (ks := fillL k.toNat k.toNat) hp fillL_all (by rw [fillL_len (Nat.le_refl _)]; omega) (by omega) hl hr
    have k40 := p40 ls l c (fillL k.toNat k.toNat) (by omega) (fun n => by have := hr n; omega) (by rw [fillL_len (Nat.le_refl _)]; omega)
    rw [e1] at k40
    have k35 := p35 N L' C' l c 1 8 (by omega) (fun n => by have := e7 n; omega) ⟨by decide, by decide⟩
    rw [e4] at k35
    refine HoldsT.loop (fun i : Int => sh11 ls a b n l c k i) (fun i => (k - i).toNat) (fun i => 0 ≤ i ∧ i ≤ k) 0 ?_ ?_ (fun _ => by kernel_rfl) ?_
    · refine WeakT.of ?_ ?_ (by kernel_rfl)
      · repeat' (first | exact TTle.junk _ _ | exact TTle.same _ | refine TTle.node ?_ ?_ | refine TTle.leaf ?_ | exact AVle.junk _ | exact AVle.rfl' rfl | exact AVle.nilS | exact AVle.nilB)
      · repeat' (first | exact OOle.none _ _ | exact OOle.same _ | refine OOle.node ?_ ?_ | exact OOle.leaf _ | exact OOle.gone _)
    · exact ⟨by simp, hk0⟩
    · intro i hi
      obtain ⟨h1, h2⟩ := hi
      have hfl := fillL_len (k := k.toNat) (i := i.toNat) (by omega)
      have k40' : ¬ i < k → Pure Try.prog 40 [.slS ls, .agg [.int .i64 l, .int .i64 c], .slB (fillL k.toNat i.toNat)] (tdAV (some ⟨N, L', C'⟩)) := fun h => by rw [show i = k by omega]; exact k40
      show HoldsT Try.prog _ (sh11 ls a b n l c k i) _
      repeat' (first
        | refine allProp_T ?_
        | exact trivial
        | (refine URun.id ?_; first
            | refine URun.nil ?_
            | refine URun.many tabs rfl rfl (by kernel_rfl) ?_ ?_
            | (refine URun.toCall 40 rfl ?_; first
              | refine URun.call tabs rfl rfl rfl rfl (k40' (by assumption)) rfl rfl ?_ rfl ?_)
            | (refine URun.toCall 35 rfl ?_; first
              | refine URun.call tabs rfl rfl rfl rfl k35 rfl rfl ?_ rfl ?_)
            | refine URun.same tabs rfl rfl rfl ?_
            | refine URun.same2 tabs rfl rfl rfl ?_
            | refine URun.yes tabs rfl rfl (fun h => h e2) rfl ?_
            | refine URun.no tabs rfl rfl (fun h => h e2) rfl ?_
            | refine URun.yes tabs rfl rfl (fun h => h (e3 (by assumption))) rfl ?_
            | refine URun.no tabs rfl rfl (fun h => h (e3 (by assumption))) rfl ?_
            | refine URun.yes tabs rfl rfl (e5 (by assumption)).1 rfl ?_
            | refine URun.no tabs rfl rfl (e5 (by assumption)).1 rfl ?_
            | refine URun.yes tabs rfl rfl (e5 (by assumption)).2 rfl ?_
            | refine URun.no tabs rfl rfl (e5 (by assumption)).2 rfl ?_
            | refine URun.yes tabs rfl rfl (by omega) rfl ?_
            | refine URun.no tabs rfl rfl (by omega) rfl ?_
            | refine URun.split tabs rfl rfl rfl rfl (fun h => ?_) (fun h => ?_))
        | (refine TRun.id ?_; first
            | refine TRun.nil ?_
            | refine TRun.many rfl rfl (by kernel_rfl) ?_ ?_
            | (refine TRun.toCall 40 rfl ?_; first
              | refine TRun.call rfl rfl rfl rfl (k40' (by assumption)) rfl rfl ?_ rfl ?_)
            | (refine TRun.toCall 35 rfl ?_; first
              | refine TRun.call rfl rfl rfl rfl k35 rfl rfl ?_ rfl ?_)
            | refine TRun.same rfl rfl rfl ?_
            | refine TRun.same2 rfl rfl rfl ?_
            | refine TRun.yes rfl rfl (fun h => h e2) rfl ?_
            | refine TRun.no rfl rfl (fun h => h e2) rfl ?_
            | refine TRun.yes rfl rfl (fun h => h (e3 (by assumption))) rfl ?_
            | refine TRun.no rfl rfl (fun h => h (e3 (by assumption))) rfl ?_
            | refine TRun.yes rfl rfl (e5 (by assumption)).1 rfl ?_
            | refine TRun.no rfl rfl (e5 (by assumption)).1 rfl ?_
            | refine TRun.yes rfl rfl (e5 (by assumption)).2 rfl ?_
            | refine TRun.no rfl rfl (e5 (by assumption)).2 rfl ?_
            | refine TRun.yes rfl rfl (by omega) rfl ?_
            | refine TRun.no rfl rfl (by omega) rfl ?_
            | refine TRun.split rfl rfl rfl rfl (fun h => ?_) (fun h => ?_))
        | (refine HoldsT.id ?_; first
            | refine HoldsT.seq ?_
            | refine HoldsT.regionU ?_
            | refine HoldsT.drawn tabs ?_
            | refine HoldsT.yes rfl ?_
            | refine HoldsT.no rfl ?_
            | refine HoldsT.cond rfl (fun h => ?_) (fun h => ?_)
            | refine HoldsT.block ?_
            | refine HoldsT.ret ?_
            | refine HoldsT.skip ?_
            | refine HoldsT.exit ?_)
        | (refine okTr_intro ?_; kernel_rfl)
        | exact absurd rfl h
        | exact lenEq_intro hfl
        | refine allProp_C ?_ ?_
        | refine And.intro ?_ ?_
        | omega
        | (show _ < List.length _; omega)
        | exact rowlen_intro rfl
        | exact lenEq_intro rfl
        | exact Nat.le_of_ble_eq_true rfl
        | (simp only [AV.rowlenD, AV.rowlen, AV.ncells, mulSz, toN, Option.map_some, Option.map_none, cutL, List.length_take, List.length_drop, List.length_append, List.length_cons, List.length_nil, List.length_set, Option.some.injEq, Int.reduceToNat] <;> omega))
      · refine ⟨i + 1, ⟨by omega, by omega, by omega⟩, ?_⟩
        have e : (fillL k.toNat i.toNat).set i.toNat 13 = fillL k.toNat (i + 1).toNat := by rw [toNat_succ h1]; exact fillL_set (by omega)
        unfold sh11
        rw [← e]
        refine WeakT.of ?_ ?_ (by kernel_rfl)
        · repeat' (first | exact TTle.junk _ _ | exact TTle.same _ | refine TTle.node ?_ ?_ | refine TTle.leaf ?_ | exact AVle.junk _ | exact AVle.rfl' rfl | exact AVle.nilS | exact AVle.nilB)
        · repeat' (first | exact OOle.none _ _ | exact OOle.same _ | refine OOle.node ?_ ?_ | exact OOle.leaf _ | exact OOle.gone _)
      all_goals exact FinC.te (y := .bool true) rfl rfl trivial rfl
end

end Go.Proofs.Ytefbgdnobnemkaa.AM
