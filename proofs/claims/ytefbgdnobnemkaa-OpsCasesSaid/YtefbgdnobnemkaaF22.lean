/-
  What is left of keys makes what typing all made.
-/
import Derived.Test.YtefbgdnobnemkaaF21
set_option linter.unusedSimpArgs false
set_option linter.unusedVariables false
set_option linter.unusedSectionVars false
namespace Go.Proofs.Ytefbgdnobnemkaa.AM
open Go Go.RowKit

def goodK (k : UInt8) : Prop := letterK k.toNat = true ∨ (k.toNat : Int) = 13 ∨ (k.toNat : Int) = 10

theorem netStep_good {out : List UInt8} {k : UInt8} (h : ∀ x ∈ out, goodK x) : ∀ x ∈ netStep out k, goodK x := by
  unfold netStep
  split
  · rename_i hk
    intro x hx
    rcases List.mem_append.1 hx with hx | hx
    · exact h x hx
    · simp only [List.mem_singleton] at hx; subst hx; exact hk
  · split
    · exact fun x hx => h x (List.mem_of_mem_take hx)
    · exact h
theorem foldl_good : ∀ (ks out : List UInt8), (∀ x ∈ out, goodK x) → ∀ x ∈ ks.foldl netStep out, goodK x
  | [], _, h => h
  | k :: ks, out, h => foldl_good ks (netStep out k) (netStep_good h)
theorem netL_good (ks : List UInt8) : ∀ x ∈ netL ks, goodK x := foldl_good ks [] (fun x hx => by cases hx)
theorem foldl_same : ∀ (ks out : List UInt8), (∀ x ∈ ks, goodK x) → ks.foldl netStep out = out ++ ks
  | [], out, _ => by simp
  | k :: ks, out, h => by
    have hk := h k (by simp)
    rw [List.foldl_cons, show netStep out k = out ++ [k] by (unfold netStep; exact if_pos hk), foldl_same ks _ (fun x hx => h x (by simp [hx]))]
    simp
theorem netL_idem (ks : List UInt8) : netL (netL ks) = netL ks := by
  have := foldl_same (netL ks) [] (netL_good ks)
  simpa [netL] using this
theorem netStep_len (out : List UInt8) (k : UInt8) : (netStep out k).length ≤ out.length + 1 := by
  unfold netStep
  split
  · simp
  · split
    · rw [List.length_take]; omega
    · omega
theorem netL_len (ks : List UInt8) : (netL ks).length ≤ ks.length := by
  have : ∀ (ks out : List UInt8), (ks.foldl netStep out).length ≤ out.length + ks.length := by
    intro ks
    induction ks with
    | nil => intro out; simp
    | cons k ks ih => intro out; have := ih (netStep out k); have := netStep_len out k; simp only [List.foldl_cons, List.length_cons]; omega
  simpa [netL] using this ks []

theorem typedL_append (ls : List (List UInt8)) (l c : Int) (ks : List UInt8) (k : UInt8) : typedL ls l c (ks ++ [k]) = typedStep l c (typedL ls l c ks) k := by
  unfold typedL; rw [List.foldl_append]; rfl

theorem place_letter {s : TdR} {l0 c0 : Int} {k : UInt8} (hp : placeL s.ls s.l s.c = true) (hk : goodK k) : ∃ s', typedStep l0 c0 (some s) k = some s' ∧ placeL s'.ls s'.l s'.c = true := by
  obtain ⟨cur, l, c⟩ := s
  obtain ⟨h0, h1, h2, h3⟩ := place_of hp
  simp only at h0 h1 h2 h3
  have hlt : l.toNat < cur.length := by omega
  by_cases hl : letterK k.toNat = true
  · refine ⟨_, step_letter hp hl, place_mk ⟨h0, by simpa using h1, by simp only; omega, ?_⟩⟩
    simp only
    rw [getD_set_self hlt, List.length_append, List.length_take, List.length_cons, List.length_drop]
    omega
  · refine ⟨_, step_break hp (hk.resolve_left hl), place_mk ⟨by simp only; omega, ?_, by simp, by simp⟩⟩
    simp only [List.length_append, List.length_take, List.length_cons, List.length_drop]
    omega

theorem typed_good {ls : List (List UInt8)} {l c : Int} (hp : placeL ls l c = true) : ∀ n : Nat, ∀ g : List UInt8, g.length = n → (∀ k ∈ g, goodK k) → ∃ s, typedL ls l c g = some s ∧ placeL s.ls s.l s.c = true := by
  intro n
  induction n with
  | zero =>
    intro g hn _
    rw [List.eq_nil_of_length_eq_zero hn]
    exact ⟨⟨ls, l, c⟩, rfl, hp⟩
  | succ n ih =>
    intro g hn hg
    rcases List.eq_nil_or_concat g with rfl | ⟨g', k, rfl⟩
    · simp at hn
    · obtain ⟨s, hs, hsp⟩ := ih g' (by simpa using hn) (fun x hx => hg x (by simp [hx]))
      obtain ⟨s', h1, h2⟩ := place_letter (l0 := l) (c0 := c) hsp (hg k (by simp))
      exact ⟨s', by rw [List.concat_eq_append, typedL_append, hs, h1], h2⟩

/-- What was typed is taken away. -/
theorem back_letter {s s' : TdR} {l0 c0 : Int} {x k : UInt8} (hp : placeL s.ls s.l s.c = true) (hx : letterK x.toNat = true) (hk : letterK k.toNat = false) (hk1 : ¬ ((k.toNat : Int) = 13 ∨ (k.toNat : Int) = 10))
    (h : typedStep l0 c0 (typedStep l0 c0 (some s) x) k = some s') : s' = s := by
  obtain ⟨cur, l, c⟩ := s
  obtain ⟨h0, h1, h2, h3⟩ := place_of hp
  simp only at h0 h1 h2 h3
  have hlt : l.toNat < cur.length := by omega
  rw [step_letter hp hx] at h
  have hself : (cur.set l.toNat ((cur.getD l.toNat []).take c.toNat ++ x :: (cur.getD l.toNat []).drop c.toNat)).getD l.toNat [] = (cur.getD l.toNat []).take c.toNat ++ x :: (cur.getD l.toNat []).drop c.toNat := getD_set_self hlt
  have hct : ((cur.getD l.toNat []).take c.toNat).length = c.toNat := by rw [List.length_take]; omega
  have e1 : ((cur.getD l.toNat []).take c.toNat ++ x :: (cur.getD l.toNat []).drop c.toNat).take (c + 1 - 1).toNat = (cur.getD l.toNat []).take c.toNat := by
    rw [show (c + 1 - 1).toNat = ((cur.getD l.toNat []).take c.toNat).length by omega, List.take_left]
  have e2 : ((cur.getD l.toNat []).take c.toNat ++ x :: (cur.getD l.toNat []).drop c.toNat).drop (c + 1).toNat = (cur.getD l.toNat []).drop c.toNat := by
    rw [show (c + 1).toNat = ((cur.getD l.toNat []).take c.toNat).length + 1 by omega, ← List.drop_drop, List.drop_left]; rfl
  have e3 : (cur.set l.toNat ((cur.getD l.toNat []).take c.toNat ++ x :: (cur.getD l.toNat []).drop c.toNat)).set l.toNat (cur.getD l.toNat []) = cur := by
    rw [List.set_set]; simp [hlt]
  obtain ⟨a1, a2⟩ := app1 (ls := cur.set l.toNat ((cur.getD l.toNat []).take c.toNat ++ x :: (cur.getD l.toNat []).drop c.toNat)) (l := l) (x := cur.getD l.toNat []) h0 (by simpa using h1)
  rw [hself] at a1 a2
  have ht : typeL (cur.set l.toNat ((cur.getD l.toNat []).take c.toNat ++ x :: (cur.getD l.toNat []).drop c.toNat)) l (c + 1) l0 c0 1 k.toNat = ⟨true, l, [(cur.getD l.toNat []).take c.toNat ++ x :: (cur.getD l.toNat []).drop c.toNat], [cur.getD l.toNat []], l, c + 1 - 1⟩ ∨ typeL (cur.set l.toNat ((cur.getD l.toNat []).take c.toNat ++ x :: (cur.getD l.toNat []).drop c.toNat)) l (c + 1) l0 c0 1 k.toNat = tyNo := by
    unfold typeL
    rw [hself, e1, e2, List.take_append_drop]
    split
    · simp only [hk, hk1, Bool.false_eq_true, if_false]
      split
      · exact .inl rfl
      · exact .inr rfl
    · exact .inr rfl
  simp only [typedStep] at h
  rcases ht with ht | ht
  · rw [ht] at h
    simp only [a1, a2, e3, Bool.true_and, if_true, Option.some.injEq] at h
    rw [← h]
    simp only [TdR.mk.injEq, true_and]
    omega
  · rw [ht] at h
    simp [tyNo] at h

theorem back_none {s : TdR} {l0 c0 : Int} {k : UInt8} (hk : letterK k.toNat = false) (hk1 : ¬ ((k.toNat : Int) = 13 ∨ (k.toNat : Int) = 10)) (h : s.c = 0 ∨ (s.l = l0 ∧ s.c ≤ c0) ∨ ¬ ((k.toNat : Int) = 8 ∨ (k.toNat : Int) = 127)) : typedStep l0 c0 (some s) k = none := by
  simp only [typedStep]
  have : typeL s.ls s.l s.c l0 c0 1 k.toNat = tyNo := by
    unfold typeL
    split
    · simp only [hk, hk1, Bool.false_eq_true, if_false]
      rw [if_neg (fun hh => by omega)]
    · rfl
  rw [this]
  simp [tyNo]

theorem typed_net {ls : List (List UInt8)} {l c : Int} {ks : List UInt8} (hp : placeL ls l c = true) : ∀ n : Nat, n ≤ ks.length → ∀ s, typedL ls l c (ks.take n) = some s → typedL ls l c (netL (ks.take n)) = some s := by
  intro n
  induction n with
  | zero => intro _ s h; simpa [netL] using h
  | succ n ih =>
    intro hn s h
    have hn' : n < ks.length := by omega
    rw [typedL_succ _ _ _ _ _ hn'] at h
    cases hs : typedL ls l c (ks.take n) with
    | none => rw [hs] at h; cases h
    | some s0 =>
      rw [hs] at h
      have hi := ih (by omega) s0 hs
      rw [netL_succ _ _ hn']
      generalize ks.getD n 0 = k at h ⊢
      have hgood := netL_good (ks.take n)
      generalize netL (ks.take n) = out at hi hgood ⊢
      by_cases hk : letterK k.toNat = true ∨ (k.toNat : Int) = 13 ∨ (k.toNat : Int) = 10
      · rw [show netStep out k = out ++ [k] by unfold netStep; rw [if_pos hk], typedL_append, hi]; exact h
      · have hk0 : letterK k.toNat = false := by
          cases hh : letterK k.toNat with
          | true => exact absurd (.inl hh) hk
          | false => rfl
        have hk1 : ¬ ((k.toNat : Int) = 13 ∨ (k.toNat : Int) = 10) := fun hh => hk (.inr hh)
        rcases List.eq_nil_or_concat out with rfl | ⟨out', x, rfl⟩
        · exfalso
          cases hi
          have hz : typedStep l c (some ⟨ls, l, c⟩) k = none := back_none hk0 hk1 (.inr (.inl ⟨rfl, Int.le_refl _⟩))
          rw [hz] at h
          cases h
        · rw [List.concat_eq_append] at hi hgood ⊢
          obtain ⟨s1, hs1, hp1⟩ := typed_good hp _ out' rfl (fun y hy => hgood y (by simp [hy]))
          rw [typedL_append, hs1] at hi
          have hx := hgood x (by simp)
          by_cases hxl : letterK x.toNat = true
          · by_cases hkb : (k.toNat : Int) = 8 ∨ (k.toNat : Int) = 127
            · have hn1 : (((out' ++ [x]).length : Int) - 1).toNat = out'.length := by rw [List.length_append, List.length_cons, List.length_nil]; omega
              have hlast : letterK ((out' ++ [x]).getD (((out' ++ [x]).length : Int) - 1).toNat 0).toNat = true := by rw [hn1]; simpa using hxl
              have hpos : 0 < ((out' ++ [x]).length : Int) := by rw [List.length_append, List.length_cons]; omega
              have e : netStep (out' ++ [x]) k = out' := by
                unfold netStep
                rw [if_neg hk, if_pos ⟨hkb, hpos, hlast⟩, hn1, List.take_left]
              rw [e, hs1]
              rw [← hi] at h
              rw [back_letter hp1 hxl hk0 hk1 h]
            · exfalso
              rw [back_none hk0 hk1 (.inr (.inr hkb))] at h
              cases h
          · exfalso
            rw [step_break hp1 (hx.resolve_left hxl)] at hi
            cases hi
            rw [back_none hk0 hk1 (.inl rfl)] at h
            cases h

theorem typed_net' {ls : List (List UInt8)} {l c : Int} {ks : List UInt8} {s : TdR} (hp : placeL ls l c = true) (h : typedL ls l c ks = some s) : typedL ls l c (netL ks) = some s := by
  have := typed_net (ks := ks) hp ks.length (Nat.le_refl _) s
  rw [List.take_length] at this
  exact this h

theorem typedStep_len {s s' : TdR} {l0 c0 : Int} {k : UInt8} (h : typedStep l0 c0 (some s) k = some s') : s'.ls.length ≤ s.ls.length + 2 := by
  simp only [typedStep] at h
  split at h
  · cases h
    have h1 := typeL_small (ls := s.ls) (l := s.l) (c := s.c) (fl := l0) (fc := c0) (m := 1) (k := k.toNat) (b := sumL s.ls) (fun n => by
      rcases Nat.lt_or_ge n s.ls.length with hn | hn
      · have := sumL_take s.ls n hn; have := sumL_le s.ls (n + 1); omega
      · simp [hn])
    unfold appL
    simp only
    split
    · rename_i hok
      have hok' := of_decide_eq_true hok
      simp only [cutL, List.length_append, List.length_take, List.length_drop]
      omega
    · simp
  · cases h
theorem typed_len {ls : List (List UInt8)} {l c : Int} {ks : List UInt8} : ∀ n : Nat, n ≤ ks.length → ∀ s, typedL ls l c (ks.take n) = some s → s.ls.length ≤ ls.length + 2 * n := by
  intro n
  induction n with
  | zero => intro _ s h; simp [typedL] at h; rw [← h]; simp
  | succ n ih =>
    intro hn s h
    rw [typedL_succ _ _ _ _ _ (by omega)] at h
    cases hs : typedL ls l c (ks.take n) with
    | none => rw [hs] at h; cases h
    | some s0 =>
      rw [hs] at h
      have := ih (by omega) s0 hs
      have := typedStep_len h
      omega

section
variable (ls : List (List UInt8)) (a b : Int) (ks : List UInt8) (hL : ls.length ≤ 140737488355328) (hB : ∀ n : Nat, (ls.getD n []).length ≤ 140737488355328)
include hL hB
set_option maxRecDepth 10000 in
set_option maxHeartbeats 8000000 in
theorem p8 (hks : ks.length ≤ 140737488355328) (ha : inK .u16 a) (hb : inK .u16 b) : Pure Try.prog 8 [.slS ls, .int .u16 a, .int .u16 b, .slB ks] (.bool true) := by
  have k27 := p27 ls hL hB
  cases hok : (decide (0 < (ls.length : Int)) && lightL ls) with
  | false =>
    rw [hok] at k27
    refine Pure.ofT tab_ok Try.func8 rfl rfl [.tmp 8] rfl (by decide) rfl ⟨78, 7, (.node (.node (.node (.node (.node (.node (.node (.leaf (.slS ls)) (J 0)) (J 1)) (J 2)) (J 3)) (J 4)) (.node (.node (.node (.node (.node (.leaf (.int .u16 b)) (J 0)) (J 1)) (J 2)) (J 3)) (J 4))) (.node (.node (.node (.node (.node (.node (.leaf (.int .u16 a)) (J 0)) (J 1)) (J 2)) (J 3)) (J 4)) (.node (.node (.node (.node (.node (.leaf (.slB ks)) (J 0)) (J 1)) (J 2)) (J 3)) (J 4)))), (OO 7)⟩ (by kernel_rfl) (by kernel_rfl) ?_
    repeat' (first
      | refine allProp_T ?_
      | exact trivial
      | (refine URun.id ?_; first
          | refine URun.nil ?_
          | refine URun.many tabs rfl rfl (by kernel_rfl) ?_ ?_
          | (refine URun.toCall 34 rfl ?_; first
            | refine URun.call tabs rfl rfl rfl rfl p34 rfl rfl ?_ rfl ?_)
          | (refine URun.toCall 27 rfl ?_; first
            | refine URun.call tabs rfl rfl rfl rfl k27 rfl rfl ?_ rfl ?_)
          | refine URun.same tabs rfl rfl rfl ?_
          | refine URun.same2 tabs rfl rfl rfl ?_
          | refine URun.split tabs rfl rfl rfl rfl (fun h => ?_) (fun h => ?_))
      | (refine TRun.id ?_; first
          | refine TRun.nil ?_
          | refine TRun.many rfl rfl (by kernel_rfl) ?_ ?_
          | (refine TRun.toCall 34 rfl ?_; first
            | refine TRun.call rfl rfl rfl rfl p34 rfl rfl ?_ rfl ?_)
          | (refine TRun.toCall 27 rfl ?_; first
            | refine TRun.call rfl rfl rfl rfl k27 rfl rfl ?_ rfl ?_)
          | refine TRun.same rfl rfl rfl ?_
          | refine TRun.same2 rfl rfl rfl ?_
          | refine TRun.split rfl rfl rfl rfl (fun h => ?_) (fun h => ?_))
      | (refine HoldsT.id ?_; first
          | refine HoldsT.seq ?_
          | refine HoldsT.regionU ?_
          | refine HoldsT.drawn tabs ?_
          | refine HoldsT.yes rfl ?_
          | refine HoldsT.no rfl ?_
          | refine HoldsT.cond rfl (fun h => ?_) (fun h => ?_)
          | refine HoldsT.block ?_
          | refine HoldsT.ret ?_
          | refine HoldsT.skip ?_
          | refine HoldsT.exit ?_)
      | (refine okTr_intro ?_; kernel_rfl)
      | exact absurd rfl h
      | refine allProp_C ?_ ?_
      | refine And.intro ?_ ?_
      | omega
      | (show _ < List.length _; omega)
      | exact rowlen_intro rfl
      | exact lenEq_intro rfl
      | exact Nat.le_of_ble_eq_true rfl
      | (simp only [AV.rowlenD, AV.rowlen, AV.ncells, mulSz, toN, Option.map_some, Option.map_none, cutL, List.length_take, List.length_drop, List.length_append, List.length_cons, List.length_nil, List.length_set, Option.some.injEq, Int.reduceToNat] <;> omega))
    all_goals exact FinC.te (y := .bool true) rfl rfl trivial rfl
  | true =>
    rw [hok] at k27
    obtain ⟨h0, hl, hr⟩ := light_len hok
    have k28 := p28 ls a b h0 ha hb hB
    have hp := place_ok (ls := ls) h0 ha.1 hb.1
    generalize plL ls a = l at k28 hp
    generalize plC ls a b = c at k28 hp
    by_cases hlen : (60 : Int) < ks.length
    · have hlen' : (ks.length : Int) > 60 := hlen
      refine Pure.ofT tab_ok Try.func8 rfl rfl [.tmp 8] rfl (by decide) rfl ⟨78, 7, (.node (.node (.node (.node (.node (.node (.node (.leaf (.slS ls)) (J 0)) (J 1)) (J 2)) (J 3)) (J 4)) (.node (.node (.node (.node (.node (.leaf (.int .u16 b)) (J 0)) (J 1)) (J 2)) (J 3)) (J 4))) (.node (.node (.node (.node (.node (.node (.leaf (.int .u16 a)) (J 0)) (J 1)) (J 2)) (J 3)) (J 4)) (.node (.node (.node (.node (.node (.leaf (.slB ks)) (J 0)) (J 1)) (J 2)) (J 3)) (J 4)))), (OO 7)⟩ (by kernel_rfl) (by kernel_rfl) ?_
      repeat' (first
        | refine allProp_T ?_
        | exact trivial
        | (refine URun.id ?_; first
            | refine URun.nil ?_
            | refine URun.many tabs rfl rfl (by kernel_rfl) ?_ ?_
            | (refine URun.toCall 34 rfl ?_; first
              | refine URun.call tabs rfl rfl rfl rfl p34 rfl rfl ?_ rfl ?_)
            | (refine URun.toCall 27 rfl ?_; first
              | refine URun.call tabs rfl rfl rfl rfl k27 rfl rfl ?_ rfl ?_)
            | refine URun.same tabs rfl rfl rfl ?_
            | refine URun.same2 tabs rfl rfl rfl ?_
            | refine URun.yes tabs rfl rfl hlen rfl ?_
            | refine URun.no tabs rfl rfl hlen rfl ?_
            | refine URun.split tabs rfl rfl rfl rfl (fun h => ?_) (fun h => ?_))
        | (refine TRun.id ?_; first
            | refine TRun.nil ?_
            | refine TRun.many rfl rfl (by kernel_rfl) ?_ ?_
            | (refine TRun.toCall 34 rfl ?_; first
              | refine TRun.call rfl rfl rfl rfl p34 rfl rfl ?_ rfl ?_)
            | (refine TRun.toCall 27 rfl ?_; first
              | refine TRun.call rfl rfl rfl rfl k27 rfl rfl ?_ rfl ?_)
            | refine TRun.same rfl rfl rfl ?_
            | refine TRun.same2 rfl rfl rfl ?_
            | refine TRun.yes rfl rfl hlen rfl ?_
            | refine TRun.no rfl rfl hlen rfl ?_
            | refine TRun.split rfl rfl rfl rfl (fun h => ?_) (fun h => ?_))
        | (refine HoldsT.id ?_; first
            | refine HoldsT.seq ?_
            | refine HoldsT.regionU ?_
            | refine HoldsT.drawn tabs ?_
            | refine HoldsT.yes rfl ?_
            | refine HoldsT.no rfl ?_
            | refine HoldsT.cond rfl (fun h => ?_) (fun h => ?_)
            | refine HoldsT.block ?_
            | refine HoldsT.ret ?_
            | refine HoldsT.skip ?_
            | refine HoldsT.exit ?_)
        | (refine okTr_intro ?_; kernel_rfl)
        | exact absurd rfl h
        | refine allProp_C ?_ ?_
        | refine And.intro ?_ ?_
        | omega
        | (show _ < List.length _; omega)
        | exact rowlen_intro rfl
        | exact lenEq_intro rfl
        | exact Nat.le_of_ble_eq_true rfl
        | (simp only [AV.rowlenD, AV.rowlen, AV.ncells, mulSz, toN, Option.map_some, Option.map_none, cutL, List.length_take, List.length_drop, List.length_append, List.length_cons, List.length_nil, List.length_set, Option.some.injEq, Int.reduceToNat] <;> omega))
      all_goals exact FinC.te (y := .bool true) rfl rfl trivial rfl
    · have hl6 : ks.length ≤ 60 := by omega
      have hn := netL_len ks
      have k38 := p38 ks (by omega)
      have k39 := p39 ks (by omega)
      have k38b := p38 (netL ks) (by omega)
      rw [netL_idem] at k38b
      have k40a := p40 ls l c ks (by omega) (fun n => by have := hr n; omega) (by omega)
      have k40b := p40 ls l c (netL ks) (by omega) (fun n => by have := hr n; omega) (by omega)
      cases ht : typedL ls l c ks with
      | none =>
        rw [ht] at k40a
        cases ht2 : typedL ls l c (netL ks) with
        | none =>
          rw [ht2] at k40b
          refine Pure.ofT tab_ok Try.func8 rfl rfl [.tmp 8] rfl (by decide) rfl ⟨78, 7, (.node (.node (.node (.node (.node (.node (.node (.leaf (.slS ls)) (J 0)) (J 1)) (J 2)) (J 3)) (J 4)) (.node (.node (.node (.node (.node (.leaf (.int .u16 b)) (J 0)) (J 1)) (J 2)) (J 3)) (J 4))) (.node (.node (.node (.node (.node (.node (.leaf (.int .u16 a)) (J 0)) (J 1)) (J 2)) (J 3)) (J 4)) (.node (.node (.node (.node (.node (.leaf (.slB ks)) (J 0)) (J 1)) (J 2)) (J 3)) (J 4)))), (OO 7)⟩ (by kernel_rfl) (by kernel_rfl) ?_
          repeat' (first
            | refine allProp_T ?_
            | exact trivial
            | (refine URun.id ?_; first
                | refine URun.nil ?_
                | refine URun.many tabs rfl rfl (by kernel_rfl) ?_ ?_
                | (refine URun.toCall 34 rfl ?_; first
                  | refine URun.call tabs rfl rfl rfl rfl p34 rfl rfl ?_ rfl ?_)
                | (refine URun.toCall 27 rfl ?_; first
                  | refine URun.call tabs rfl rfl rfl rfl k27 rfl rfl ?_ rfl ?_)
                | (refine URun.toCall 28 rfl ?_; first
                  | refine URun.call tabs rfl rfl rfl rfl k28 rfl rfl ?_ rfl ?_)
                | (refine URun.toCall 38 rfl ?_; first
                  | refine URun.call tabs rfl rfl rfl rfl k38 rfl rfl ?_ rfl ?_
                  | refine URun.call tabs rfl rfl rfl rfl k38b rfl rfl ?_ rfl ?_)
                | (refine URun.toCall 39 rfl ?_; first
                  | refine URun.call tabs rfl rfl rfl rfl k39 rfl rfl ?_ rfl ?_)
                | (refine URun.toCall 40 rfl ?_; first
                  | refine URun.call tabs rfl rfl rfl rfl k40a rfl rfl ?_ rfl ?_
                  | refine URun.call tabs rfl rfl rfl rfl k40b rfl rfl ?_ rfl ?_)
                | refine URun.same tabs rfl rfl rfl ?_
                | refine URun.same2 tabs rfl rfl rfl ?_
                | refine URun.yes tabs rfl rfl hlen rfl ?_
                | refine URun.no tabs rfl rfl hlen rfl ?_
                | refine URun.yes tabs rfl rfl (fun h => h rfl) rfl ?_
                | refine URun.no tabs rfl rfl (fun h => h rfl) rfl ?_
                | refine URun.split tabs rfl rfl rfl rfl (fun h => ?_) (fun h => ?_))
            | (refine TRun.id ?_; first
                | refine TRun.nil ?_
                | refine TRun.many rfl rfl (by kernel_rfl) ?_ ?_
                | (refine TRun.toCall 34 rfl ?_; first
                  | refine TRun.call rfl rfl rfl rfl p34 rfl rfl ?_ rfl ?_)
                | (refine TRun.toCall 27 rfl ?_; first
                  | refine TRun.call rfl rfl rfl rfl k27 rfl rfl ?_ rfl ?_)
                | (refine TRun.toCall 28 rfl ?_; first
                  | refine TRun.call rfl rfl rfl rfl k28 rfl rfl ?_ rfl ?_)
                | (refine TRun.toCall 38 rfl ?_; first
                  | refine TRun.call rfl rfl rfl rfl k38 rfl rfl ?_ rfl ?_
                  | refine TRun.call rfl rfl rfl rfl k38b rfl rfl ?_ rfl ?_)
                | (refine TRun.toCall 39 rfl ?_; first
                  | refine TRun.call rfl rfl rfl rfl k39 rfl rfl ?_ rfl ?_)
                | (refine TRun.toCall 40 rfl ?_; first
                  | refine TRun.call rfl rfl rfl rfl k40a rfl rfl ?_ rfl ?_
                  | refine TRun.call rfl rfl rfl rfl k40b rfl rfl ?_ rfl ?_)
                | refine TRun.same rfl rfl rfl ?_
                | refine TRun.same2 rfl rfl rfl ?_
                | refine TRun.yes rfl rfl hlen rfl ?_
                | refine TRun.no rfl rfl hlen rfl ?_
                | refine TRun.yes rfl rfl (fun h => h rfl) rfl ?_
                | refine TRun.no rfl rfl (fun h => h rfl) rfl ?_
                | refine TRun.split rfl rfl rfl rfl (fun h => ?_) (fun h => ?_))
            | (refine HoldsT.id ?_; first
                | refine HoldsT.seq ?_
                | refine HoldsT.regionU ?_
                | refine HoldsT.drawn tabs ?_
                | refine HoldsT.yes rfl ?_
                | refine HoldsT.no rfl ?_
                | refine HoldsT.cond rfl (fun h => ?_) (fun h => ?_)
                | refine HoldsT.block ?_
                | refine HoldsT.ret ?_
                | refine HoldsT.skip ?_
                | refine HoldsT.exit ?_)
            | (refine okTr_intro ?_; kernel_rfl)
            | exact absurd rfl h
            | refine allProp_C ?_ ?_
            | refine And.intro ?_ ?_
            | omega
            | (show _ < List.length _; omega)
            | exact rowlen_intro rfl
            | exact lenEq_intro rfl
            | exact Nat.le_of_ble_eq_true rfl
            | (simp only [AV.rowlenD, AV.rowlen, AV.ncells, mulSz, toN, Option.map_some, Option.map_none, cutL, List.length_take, List.length_drop, List.length_append, List.length_cons, List.length_nil, List.length_set, Option.some.injEq, Int.reduceToNat] <;> omega))
          all_goals exact FinC.te (y := .bool true) rfl rfl trivial rfl
        | some s2 =>
          rw [ht2] at k40b
          refine Pure.ofT tab_ok Try.func8 rfl rfl [.tmp 8] rfl (by decide) rfl ⟨78, 7, (.node (.node (.node (.node (.node (.node (.node (.leaf (.slS ls)) (J 0)) (J 1)) (J 2)) (J 3)) (J 4)) (.node (.node (.node (.node (.node (.leaf (.int .u16 b)) (J 0)) (J 1)) (J 2)) (J 3)) (J 4))) (.node (.node (.node (.node (.node (.node (.leaf (.int .u16 a)) (J 0)) (J 1)) (J 2)) (J 3)) (J 4)) (.node (.node (.node (.node (.node (.leaf (.slB ks)) (J 0)) (J 1)) (J 2)) (J 3)) (J 4)))), (OO 7)⟩ (by kernel_rfl) (by kernel_rfl) ?_
          repeat' (first
            | refine allProp_T ?_
            | exact trivial
            | (refine URun.id ?_; first
                | refine URun.nil ?_
                | refine URun.many tabs rfl rfl (by kernel_rfl) ?_ ?_
                | (refine URun.toCall 34 rfl ?_; first
                  | refine URun.call tabs rfl rfl rfl rfl p34 rfl rfl ?_ rfl ?_)
                | (refine URun.toCall 27 rfl ?_; first
                  | refine URun.call tabs rfl rfl rfl rfl k27 rfl rfl ?_ rfl ?_)
                | (refine URun.toCall 28 rfl ?_; first
                  | refine URun.call tabs rfl rfl rfl rfl k28 rfl rfl ?_ rfl ?_)
                | (refine URun.toCall 38 rfl ?_; first
                  | refine URun.call tabs rfl rfl rfl rfl k38 rfl rfl ?_ rfl ?_
                  | refine URun.call tabs rfl rfl rfl rfl k38b rfl rfl ?_ rfl ?_)
                | (refine URun.toCall 39 rfl ?_; first
                  | refine URun.call tabs rfl rfl rfl rfl k39 rfl rfl ?_ rfl ?_)
                | (refine URun.toCall 40 rfl ?_; first
                  | refine URun.call tabs rfl rfl rfl rfl k40a rfl rfl ?_ rfl ?_
                  | refine URun.call tabs rfl rfl rfl rfl k40b rfl rfl ?_ rfl ?_)
                | refine URun.same tabs rfl rfl rfl ?_
                | refine URun.same2 tabs rfl rfl rfl ?_
                | refine URun.yes tabs rfl rfl hlen rfl ?_
                | refine URun.no tabs rfl rfl hlen rfl ?_
                | refine URun.yes tabs rfl rfl (fun h => h rfl) rfl ?_
                | refine URun.no tabs rfl rfl (fun h => h rfl) rfl ?_
                | refine URun.split tabs rfl rfl rfl rfl (fun h => ?_) (fun h => ?_))
            | (refine TRun.id ?_; first
                | refine TRun.nil ?_
                | refine TRun.many rfl rfl (by kernel_rfl) ?_ ?_
                | (refine TRun.toCall 34 rfl ?_; first
                  | refine TRun.call rfl rfl rfl rfl p34 rfl rfl ?_ rfl ?_)
                | (refine TRun.toCall 27 rfl ?_; first
                  | refine TRun.call rfl rfl rfl rfl k27 rfl rfl ?_ rfl ?_)
                | (refine TRun.toCall 28 rfl ?_; first
                  | refine TRun.call rfl rfl rfl rfl k28 rfl rfl ?_ rfl ?_)
                | (refine TRun.toCall 38 rfl ?_; first
                  | refine TRun.call rfl rfl rfl rfl k38 rfl rfl ?_ rfl ?_
                  | refine TRun.call rfl rfl rfl rfl k38b rfl rfl ?_ rfl ?_)
                | (refine TRun.toCall 39 rfl ?_; first
                  | refine TRun.call rfl rfl rfl rfl k39 rfl rfl ?_ rfl ?_)
                | (refine TRun.toCall 40 rfl ?_; first
                  | refine TRun.call rfl rfl rfl rfl k40a rfl rfl ?_ rfl ?_
                  | refine TRun.call rfl rfl rfl rfl k40b rfl rfl ?_ rfl ?_)
                | refine TRun.same rfl rfl rfl ?_
                | refine TRun.same2 rfl rfl rfl ?_
                | refine TRun.yes rfl rfl hlen rfl ?_
                | refine TRun.no rfl rfl hlen rfl ?_
                | refine TRun.yes rfl rfl (fun h => h rfl) rfl ?_
                | refine TRun.no rfl rfl (fun h => h rfl) rfl ?_
                | refine TRun.split rfl rfl rfl rfl (fun h => ?_) (fun h => ?_))
            | (refine HoldsT.id ?_; first
                | refine HoldsT.seq ?_
                | refine HoldsT.regionU ?_
                | refine HoldsT.drawn tabs ?_
                | refine HoldsT.yes rfl ?_
                | refine HoldsT.no rfl ?_
                | refine HoldsT.cond rfl (fun h => ?_) (fun h => ?_)
                | refine HoldsT.block ?_
                | refine HoldsT.ret ?_
                | refine HoldsT.skip ?_
                | refine HoldsT.exit ?_)
            | (refine okTr_intro ?_; kernel_rfl)
            | exact absurd rfl h
            | refine allProp_C ?_ ?_
            | refine And.intro ?_ ?_
            | omega
            | (show _ < List.length _; omega)
            | exact rowlen_intro rfl
            | exact lenEq_intro rfl
            | exact Nat.le_of_ble_eq_true rfl
            | (simp only [AV.rowlenD, AV.rowlen, AV.ncells, mulSz, toN, Option.map_some, Option.map_none, cutL, List.length_take, List.length_drop, List.length_append, List.length_cons, List.length_nil, List.length_set, Option.some.injEq, Int.reduceToNat] <;> omega))
          all_goals exact FinC.te (y := .bool true) rfl rfl trivial rfl
      | some s =>
        rw [typed_net' hp ht] at k40b
        have hs := typed_len (ls := ls) (l := l) (c := c) (ks := ks) ks.length (Nat.le_refl _) s (by rw [List.take_length]; exact ht)
        rw [ht] at k40a
        have k30 := p30 s.ls s.ls (by omega)
        rw [decide_eq_true rfl] at k30
        refine Pure.ofT tab_ok Try.func8 rfl rfl [.tmp 8] rfl (by decide) rfl ⟨78, 7, (.node (.node (.node (.node (.node (.node (.node (.leaf (.slS ls)) (J 0)) (J 1)) (J 2)) (J 3)) (J 4)) (.node (.node (.node (.node (.node (.leaf (.int .u16 b)) (J 0)) (J 1)) (J 2)) (J 3)) (J 4))) (.node (.node (.node (.node (.node (.node (.leaf (.int .u16 a)) (J 0)) (J 1)) (J 2)) (J 3)) (J 4)) (.node (.node (.node (.node (.node (.leaf (.slB ks)) (J 0)) (J 1)) (J 2)) (J 3)) (J 4)))), (OO 7)⟩ (by kernel_rfl) (by kernel_rfl) ?_
        repeat' (first
          | refine allProp_T ?_
          | exact trivial
          | (refine URun.id ?_; first
              | refine URun.nil ?_
              | refine URun.many tabs rfl rfl (by kernel_rfl) ?_ ?_
              | (refine URun.toCall 34 rfl ?_; first
                | refine URun.call tabs rfl rfl rfl rfl p34 rfl rfl ?_ rfl ?_)
              | (refine URun.toCall 27 rfl ?_; first
                | refine URun.call tabs rfl rfl rfl rfl k27 rfl rfl ?_ rfl ?_)
              | (refine URun.toCall 28 rfl ?_; first
                | refine URun.call tabs rfl rfl rfl rfl k28 rfl rfl ?_ rfl ?_)
              | (refine URun.toCall 38 rfl ?_; first
                | refine URun.call tabs rfl rfl rfl rfl k38 rfl rfl ?_ rfl ?_
                | refine URun.call tabs rfl rfl rfl rfl k38b rfl rfl ?_ rfl ?_)
              | (refine URun.toCall 39 rfl ?_; first
                | refine URun.call tabs rfl rfl rfl rfl k39 rfl rfl ?_ rfl ?_)
              | (refine URun.toCall 40 rfl ?_; first
                | refine URun.call tabs rfl rfl rfl rfl k40a rfl rfl ?_ rfl ?_
                | refine URun.call tabs rfl rfl rfl rfl k40b rfl rfl ?_ rfl ?_)
              | (refine URun.toCall 30 rfl ?_; first
                | refine URun.call tabs rfl rfl rfl rfl k30 rfl rfl ?_ rfl ?_)
              | refine URun.same tabs rfl rfl rfl ?_
              | refine URun.same2 tabs rfl rfl rfl ?_
              | refine URun.yes tabs rfl rfl hlen rfl ?_
              | refine URun.no tabs rfl rfl hlen rfl ?_
              | refine URun.yes tabs rfl rfl (fun h => h rfl) rfl ?_
              | refine URun.no tabs rfl rfl (fun h => h rfl) rfl ?_
              | refine URun.split tabs rfl rfl rfl rfl (fun h => ?_) (fun h => ?_))
          | (refine TRun.id ?_; first
              | refine TRun.nil ?_
              | refine TRun.many rfl rfl (by kernel_rfl) ?_ ?_
              | (refine TRun.toCall 34 rfl ?_; first
                | refine TRun.call rfl rfl rfl rfl p34 rfl rfl ?_ rfl ?_)
              | (refine TRun.toCall 27 rfl ?_; first
                | refine TRun.call rfl rfl rfl rfl k27 rfl rfl ?_ rfl ?_)
              | (refine TRun.toCall 28 rfl ?_; first
                | refine TRun.call rfl rfl rfl rfl k28 rfl rfl ?_ rfl ?_)
              | (refine TRun.toCall 38 rfl ?_; first
                | refine TRun.call rfl rfl rfl rfl k38 rfl rfl ?_ rfl ?_
                | refine TRun.call rfl rfl rfl rfl k38b rfl rfl ?_ rfl ?_)
              | (refine TRun.toCall 39 rfl ?_; first
                | refine TRun.call rfl rfl rfl rfl k39 rfl rfl ?_ rfl ?_)
              | (refine TRun.toCall 40 rfl ?_; first
                | refine TRun.call rfl rfl rfl rfl k40a rfl rfl ?_ rfl ?_
                | refine TRun.call rfl rfl rfl rfl k40b rfl rfl ?_ rfl ?_)
              | (refine TRun.toCall 30 rfl ?_; first
                | refine TRun.call rfl rfl rfl rfl k30 rfl rfl ?_ rfl ?_)
              | refine TRun.same rfl rfl rfl ?_
              | refine TRun.same2 rfl rfl rfl ?_
              | refine TRun.yes rfl rfl hlen rfl ?_
              | refine TRun.no rfl rfl hlen rfl ?_
              | refine TRun.yes rfl rfl (fun h => h rfl) rfl ?_
              | refine TRun.no rfl rfl (fun h => h rfl) rfl ?_
              | refine TRun.split rfl rfl rfl rfl (fun h => ?_) (fun h => ?_))
          | (refine HoldsT.id ?_; first
              | refine HoldsT.seq ?_
              | refine HoldsT.regionU ?_
              | refine HoldsT.drawn tabs ?_
              | refine HoldsT.yes rfl ?_
              | refine HoldsT.no rfl ?_
              | refine HoldsT.cond rfl (fun h => ?_) (fun h => ?_)
              | refine HoldsT.block ?_
              | refine HoldsT.ret ?_
              | refine HoldsT.skip ?_
              | refine HoldsT.exit ?_)
          | (refine okTr_intro ?_; kernel_rfl)
          | exact absurd rfl h
          | refine allProp_C ?_ ?_
          | refine And.intro ?_ ?_
          | omega
          | (show _ < List.length _; omega)
          | exact rowlen_intro rfl
          | exact lenEq_intro rfl
          | exact Nat.le_of_ble_eq_true rfl
          | (simp only [AV.rowlenD, AV.rowlen, AV.ncells, mulSz, toN, Option.map_some, Option.map_none, cutL, List.length_take, List.length_drop, List.length_append, List.length_cons, List.length_nil, List.length_set, Option.some.injEq, Int.reduceToNat] <;> omega))
        all_goals exact FinC.te (y := .bool true) rfl rfl trivial rfl
end

end Go.Proofs.Ytefbgdnobnemkaa.AM
