/-
  The laws of typing, without a program: what letters, line breaks, letters over others do to a text.
-/
import Derived.Test.YtefbgdnobnemkaaG2
namespace Go.Proofs.Ytefbgdnobnemkaa.AM
open Go Go.RowKit

theorem app1 {ls : List (List UInt8)} {l : Int} {x : List UInt8} (h0 : 0 ≤ l) (h1 : l < ls.length) : appOk ls l [ls.getD l.toNat []] [x] = true ∧ appL ls l [ls.getD l.toNat []] [x] = ls.set l.toNat x := by
  have hm := mid_one h0 h1
  have ok : appOk ls l [ls.getD l.toNat []] [x] = true := decide_eq_true ⟨h0, by omega, by simp only [List.length_cons, List.length_nil]; omega, by simpa using hm, by simp only [List.length_cons, List.length_nil]; omega⟩
  refine ⟨ok, ?_⟩
  unfold appL
  rw [if_pos ok, List.set_eq_take_append_cons_drop, if_pos (by omega)]
  simp only [cutL, List.length_cons, List.length_nil]
  rw [show (l + ((0 + 1 : Nat) : Int)).toNat = l.toNat + 1 by omega, List.append_assoc]
  rfl

theorem app2 {ls : List (List UInt8)} {l : Int} {x y : List UInt8} (h0 : 0 ≤ l) (h1 : l < ls.length) : appOk ls l [ls.getD l.toNat []] [x, y] = true ∧ appL ls l [ls.getD l.toNat []] [x, y] = ls.take l.toNat ++ x :: y :: ls.drop (l.toNat + 1) := by
  have hm := mid_one h0 h1
  have ok : appOk ls l [ls.getD l.toNat []] [x, y] = true := decide_eq_true ⟨h0, by omega, by simp only [List.length_cons, List.length_nil]; omega, by simpa using hm, by simp only [List.length_cons, List.length_nil]; omega⟩
  refine ⟨ok, ?_⟩
  unfold appL
  rw [if_pos ok]
  simp only [cutL, List.length_cons, List.length_nil]
  rw [show (l + ((0 + 1 : Nat) : Int)).toNat = l.toNat + 1 by omega, List.append_assoc]
  rfl

theorem place_of {ls : List (List UInt8)} {l c : Int} (h : placeL ls l c = true) : 0 ≤ l ∧ l < ls.length ∧ 0 ≤ c ∧ c ≤ (ls.getD l.toNat []).length := of_decide_eq_true h
theorem place_mk {ls : List (List UInt8)} {l c : Int} (h : 0 ≤ l ∧ l < ls.length ∧ 0 ≤ c ∧ c ≤ (ls.getD l.toNat []).length) : placeL ls l c = true := decide_eq_true h

theorem type_letter {ls : List (List UInt8)} {l c fl fc : Int} {k : UInt8} (hp : placeL ls l c = true) (hk : letterK k.toNat = true) :
    typeL ls l c fl fc 1 k.toNat = ⟨true, l, [ls.getD l.toNat []], [(ls.getD l.toNat []).take c.toNat ++ k :: (ls.getD l.toNat []).drop c.toNat], l, c + 1⟩ := by
  unfold typeL
  rw [if_pos ⟨hp, .inl rfl⟩, if_pos hk, if_pos rfl]
  simp

theorem type_over {ls : List (List UInt8)} {l c fl fc : Int} {k : UInt8} (hp : placeL ls l c = true) (hk : letterK k.toNat = true) :
    typeL ls l c fl fc 2 k.toNat = ⟨true, l, [ls.getD l.toNat []], [(ls.getD l.toNat []).take c.toNat ++ k :: (ls.getD l.toNat []).drop (c.toNat + 1)], l, c + 1⟩ := by
  unfold typeL
  rw [if_pos ⟨hp, .inr rfl⟩, if_pos hk, if_neg (by decide)]
  simp

theorem letter_not {k : Int} (h : k = 13 ∨ k = 10) : letterK k = false := by
  unfold letterK
  exact decide_eq_false (by omega)

theorem type_break {ls : List (List UInt8)} {l c fl fc : Int} {k : Int} (hp : placeL ls l c = true) (hk : k = 13 ∨ k = 10) :
    typeL ls l c fl fc 1 k = ⟨true, l, [ls.getD l.toNat []], [(ls.getD l.toNat []).take c.toNat, (ls.getD l.toNat []).drop c.toNat], l + 1, 0⟩ := by
  unfold typeL
  rw [if_pos ⟨hp, .inl rfl⟩, if_neg (by rw [letter_not hk]; decide), if_pos hk]

theorem step_letter {ls : List (List UInt8)} {l c l0 c0 : Int} {k : UInt8} (hp : placeL ls l c = true) (hk : letterK k.toNat = true) :
    typedStep l0 c0 (some ⟨ls, l, c⟩) k = some ⟨ls.set l.toNat ((ls.getD l.toNat []).take c.toNat ++ k :: (ls.getD l.toNat []).drop c.toNat), l, c + 1⟩ := by
  obtain ⟨h0, h1, h2, h3⟩ := place_of hp
  obtain ⟨a1, a2⟩ := app1 (x := (ls.getD l.toNat []).take c.toNat ++ k :: (ls.getD l.toNat []).drop c.toNat) h0 h1
  simp only [typedStep, type_letter hp hk]
  rw [a1, a2]
  rfl

theorem step_break {ls : List (List UInt8)} {l c l0 c0 : Int} {k : UInt8} (hp : placeL ls l c = true) (hk : (k.toNat : Int) = 13 ∨ (k.toNat : Int) = 10) :
    typedStep l0 c0 (some ⟨ls, l, c⟩) k = some ⟨ls.take l.toNat ++ (ls.getD l.toNat []).take c.toNat :: (ls.getD l.toNat []).drop c.toNat :: ls.drop (l.toNat + 1), l + 1, 0⟩ := by
  obtain ⟨h0, h1, h2, h3⟩ := place_of hp
  obtain ⟨a1, a2⟩ := app2 (x := (ls.getD l.toNat []).take c.toNat) (y := (ls.getD l.toNat []).drop c.toNat) h0 h1
  simp only [typedStep, type_break hp hk]
  rw [a1, a2]
  rfl

theorem getD_set_self {ls : List (List UInt8)} {i : Nat} {x : List UInt8} (h : i < ls.length) : (ls.set i x).getD i [] = x := by
  rw [getD_set, if_pos ⟨rfl, h⟩]

/-- A line with something in its middle. -/
theorem mid_take {s t : List UInt8} {c : Nat} {r : List UInt8} (h : c ≤ s.length) (i : Nat) (hi : i = t.length) : (s.take c ++ t ++ r).take (c + i) = s.take c ++ t ∧ (s.take c ++ t ++ r).drop (c + i) = r := by
  have hl : (s.take c ++ t).length = c + i := by rw [List.length_append, List.length_take]; omega
  exact ⟨by rw [← hl, List.take_left], by rw [← hl, List.drop_left]⟩

/-- Letters that are typed. -/
theorem typed_text {ls : List (List UInt8)} {l c : Int} {text : List UInt8} (hp : placeL ls l c = true) (hk : ∀ k ∈ text, letterK k.toNat = true) : ∀ i : Nat, i ≤ text.length →
    typedL ls l c (text.take i) = some ⟨ls.set l.toNat ((ls.getD l.toNat []).take c.toNat ++ text.take i ++ (ls.getD l.toNat []).drop c.toNat), l, c + i⟩ := by
  obtain ⟨h0, h1, h2, h3⟩ := place_of hp
  have hlt : l.toNat < ls.length := by omega
  intro i
  induction i with
  | zero =>
    intro _
    have : ls.set l.toNat ((ls.getD l.toNat []).take c.toNat ++ text.take 0 ++ (ls.getD l.toNat []).drop c.toNat) = ls := by
      simp [hlt]
    rw [this]
    simp [typedL]
  | succ i ih =>
    intro hi
    have hi' : i < text.length := by omega
    rw [typedL_succ _ _ _ _ _ hi', ih (by omega)]
    have et : text.take (i + 1) = text.take i ++ [text.getD i 0] := by
      rw [List.take_add_one, List.getElem?_eq_getElem hi']; simp [hi']
    obtain ⟨m1, m2⟩ := mid_take (s := ls.getD l.toNat []) (t := text.take i) (c := c.toNat) (r := (ls.getD l.toNat []).drop c.toNat) (by omega) i (by rw [List.length_take]; omega)
    rw [step_letter (place_mk ⟨h0, by simpa using h1, by omega, ?_⟩) (hk _ ?_), getD_set_self hlt, List.set_set, show (c + (i : Nat) : Int).toNat = c.toNat + i by omega, m1, m2, et]
    · simp only [Option.some.injEq, TdR.mk.injEq, true_and]
      refine ⟨?_, by omega⟩
      simp only [List.append_assoc, List.cons_append, List.nil_append]
    · rw [getD_set_self hlt]
      simp only [List.length_append, List.length_take, List.length_drop]
      omega
    · simp [List.getD_eq_getElem?_getD, hi']

theorem typed_all {ls : List (List UInt8)} {l c : Int} {text : List UInt8} (hp : placeL ls l c = true) (hk : ∀ k ∈ text, letterK k.toNat = true) :
    typedL ls l c text = some ⟨ls.set l.toNat ((ls.getD l.toNat []).take c.toNat ++ text ++ (ls.getD l.toNat []).drop c.toNat), l, c + (text.length : Nat)⟩ := by
  have := typed_text hp hk text.length (Nat.le_refl _)
  rwa [List.take_length] at this

end Go.Proofs.Ytefbgdnobnemkaa.AM
