/-
  strings.Contains of one byte, of the shelf.
-/
import Derived.Shelf.Strings.Search3
import Derived.Test.YtefbgdnobnemkaaL1
set_option linter.unusedSimpArgs false
set_option linter.unusedVariables false
set_option linter.unusedSectionVars false
namespace Go.Proofs.Ytefbgdnobnemkaa.AM
open Go Go.Shelf Go.RowKit Go.Proofs
set_option maxRecDepth 100000

def renC : Ren :=
{
  f := fun x =>
    match x with
    | 144 => 65
    | 143 => 82
    | 219 => 100
    | 217 => 119
    | 225 => 120
    | 224 => 121
    | 267 => 122
    | 266 => 127
    | 314 => 128
    | n => n,
  t := fun x =>
    match x with
    | 9 => 9
    | 4 => 4
    | 3 => 3
    | 5 => 5
    | 46 => 109
    | 146 => 129
    | 51 => 128
    | n => n,
  g := fun x =>
    match x with
    | 1 => 0
    | n => n }

theorem layContains : Lays.n144 Try.prog renC :=
{ mixed := Eq.refl true, f143 := Eq.trans Try.func82 (congrArg some (Eq.refl (Body.n143 renC))),
  f144 := Eq.trans Try.func65 (congrArg some (Eq.refl (Body.n144 renC))),
  f217 := Eq.trans Try.func119 (congrArg some (Eq.refl (Body.n217 renC))),
  f219 := Eq.trans Try.func100 (congrArg some (Eq.refl (Body.n219 renC))),
  f224 := Eq.trans Try.func121 (congrArg some (Eq.refl (Body.n224 renC))),
  f225 := Eq.trans Try.func120 (congrArg some (Eq.refl (Body.n225 renC))),
  f266 := Eq.trans Try.func127 (congrArg some (Eq.refl (Body.n266 renC))),
  f267 := Eq.trans Try.func122 (congrArg some (Eq.refl (Body.n267 renC))),
  f314 := Eq.trans Try.func128 (congrArg some (Eq.refl (Body.n314 renC))), t3 := Try.underlying3,
  a3 := Try.isAgg3, z3 := Try.sizeOf3, v3 := Try.zeroValue3, t4 := Try.underlying4, a4 := Try.isAgg4, z4 := Try.sizeOf4,
  v4 := Try.zeroValue4, t5 := Try.underlying5, a5 := Try.isAgg5, z5 := Try.sizeOf5, v5 := Try.zeroValue5,
  t9 := Try.underlying9, a9 := Try.isAgg9, z9 := Try.sizeOf9, v9 := Try.zeroValue9, t46 := Try.underlying109,
  a46 := Try.isAgg109, z46 := Try.sizeOf109, v46 := Try.zeroValue109, t51 := Try.underlying128, a51 := Try.isAgg128,
  z51 := Try.sizeOf128, v51 := Try.zeroValue128, t146 := Try.underlying129, a146 := Try.isAgg129, z146 := Try.sizeOf129,
  v146 := Try.zeroValue129, g1 := (by kernel_rfl) }

theorem indexByte_neg (l : List UInt8) (c : UInt8) : (0 ≤ Lib.indexByte l c ↔ l.any (· == c) = true) ∧ -1 ≤ Lib.indexByte l c := by
  induction l with
  | nil => exact ⟨by simp [Lib.indexByte], by simp [Lib.indexByte]⟩
  | cons b l ih =>
    obtain ⟨h1, h2⟩ := ih
    simp only [Lib.indexByte, List.any_cons]
    by_cases hb : (b == c) = true
    · simp [hb]
    · simp only [hb, if_false, Bool.false_or, Bool.false_eq_true]
      by_cases hn : Lib.indexByte l c = -1
      · simp only [hn, beq_self_eq_true, if_true]
        refine ⟨?_, by omega⟩
        rw [← h1, hn]
      · have : (Lib.indexByte l c == -1) = false := by simpa using hn
        simp only [this, if_false, Bool.false_eq_true]
        refine ⟨?_, by omega⟩
        rw [← h1]; omega

theorem p65 (s : List UInt8) (c : UInt8) : Pure Try.prog 65 [.str s, .str [c]] (.bool (s.any (· == c))) := by
  refine ⟨rfl, ⟨_, Try.func65, rfl, rfl⟩, fun A w vs hA hvl hv => ?_⟩
  have r0 := hv 0 _ rfl
  have r1 := hv 1 _ rfl
  have e : vs = #[.string ⟨s.toArray⟩, .string ⟨#[c]⟩] := by
    have hsz : vs.size = 2 := hvl
    have q0 : vs.getD 0 undef = .string ⟨s.toArray⟩ := r0.str_inv
    have q1 : vs.getD 1 undef = .string ⟨#[c]⟩ := r1.str_inv
    rw [← q0, ← q1]
    apply Array.ext
    · simpa using hsz
    · intro i hi hi2
      match i with
      | 0 => simp [Array.getD, hsz]
      | 1 => simp [Array.getD, hsz]
      | i + 2 => omega
  subst e
  have h := Any.strings_Contains_one layContains ⟨s.toArray⟩ c w
  refine h.mono fun e w' he => ?_
  obtain ⟨rfl, rfl⟩ := he
  have e2 : decide (0 ≤ Lib.indexByte s c) = s.any (· == c) := by
    have := (indexByte_neg s c).1
    cases ha : s.any (· == c) with
    | true => exact decide_eq_true (this.2 ha)
    | false => exact decide_eq_false (fun h => by rw [this.1 h] at ha; cases ha)
  refine ⟨_, rfl, ?_, Below.refl _ _⟩
  show R _ _ _ (.bool (decide (0 ≤ Lib.indexByte s.toArray.toList c))) _
  rw [show s.toArray.toList = s from rfl, e2]
  exact .bool _

end Go.Proofs.Ytefbgdnobnemkaa.AM
