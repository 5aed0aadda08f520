/-
  strings.Repeat, of the shelf.
-/
import Derived.Shelf.Strings.Repeat
import Derived.Test.YtefbgdnobnemkaaT2
set_option linter.unusedSimpArgs false
set_option linter.unusedVariables false
set_option linter.unusedSectionVars false
namespace Go.Proofs.Ytefbgdnobnemkaa.AM
open Go Go.Shelf Go.RowKit Go.Proofs
set_option maxRecDepth 100000

def renR : Ren :=
{
  f := fun x =>
    match x with
    | 105 => 67
    | 212 => 83
    | 99 => 84
    | 165 => 85
    | 166 => 86
    | 170 => 87
    | 169 => 88
    | 263 => 101
    | 264 => 102
    | 206 => 103
    | 240 => 104
    | 241 => 105
    | 276 => 123
    | 277 => 124
    | n => n,
  t := fun x =>
    match x with
    | 9 => 9
    | 3 => 3
    | 4 => 4
    | 20 => 20
    | 0 => 0
    | 46 => 109
    | 109 => 110
    | 5 => 5
    | 72 => 114
    | 76 => 118
    | 51 => 128
    | 146 => 129
    | 53 => 131
    | 148 => 132
    | 70 => 112
    | 37 => 45
    | 75 => 117
    | 127 => 134
    | 164 => 143
    | 80 => 121
    | n => n,
  g := fun x =>
    x }

theorem layRepeat : Lays.n105 Try.prog renR :=
{ mixed := Eq.refl true, f99 := Eq.trans Try.func84 (congrArg some (Eq.refl (Body.n99 renR))),
  f105 := Eq.trans Try.func67 (congrArg some (Eq.refl (Body.n105 renR))),
  f165 := Eq.trans Try.func85 (congrArg some (Eq.refl (Body.n165 renR))),
  f166 := Eq.trans Try.func86 (congrArg some (Eq.refl (Body.n166 renR))),
  f169 := Eq.trans Try.func88 (congrArg some (Eq.refl (Body.n169 renR))),
  f170 := Eq.trans Try.func87 (congrArg some (Eq.refl (Body.n170 renR))),
  f206 := Eq.trans Try.func103 (congrArg some (Eq.refl (Body.n206 renR))),
  f212 := Eq.trans Try.func83 (congrArg some (Eq.refl (Body.n212 renR))),
  f240 := Eq.trans Try.func104 (congrArg some (Eq.refl (Body.n240 renR))),
  f241 := Eq.trans Try.func105 (congrArg some (Eq.refl (Body.n241 renR))),
  f263 := Eq.trans Try.func101 (congrArg some (Eq.refl (Body.n263 renR))),
  f264 := Eq.trans Try.func102 (congrArg some (Eq.refl (Body.n264 renR))),
  f276 := Eq.trans Try.func123 (congrArg some (Eq.refl (Body.n276 renR))),
  f277 := Eq.trans Try.func124 (congrArg some (Eq.refl (Body.n277 renR))), t0 := Try.underlying0,
  a0 := Try.isAgg0, z0 := Try.sizeOf0, v0 := Try.zeroValue0, t3 := Try.underlying3, a3 := Try.isAgg3, z3 := Try.sizeOf3,
  v3 := Try.zeroValue3, t4 := Try.underlying4, a4 := Try.isAgg4, z4 := Try.sizeOf4, v4 := Try.zeroValue4,
  t5 := Try.underlying5, a5 := Try.isAgg5, z5 := Try.sizeOf5, v5 := Try.zeroValue5, t9 := Try.underlying9,
  a9 := Try.isAgg9, z9 := Try.sizeOf9, v9 := Try.zeroValue9, t20 := Try.underlying20, a20 := Try.isAgg20,
  z20 := Try.sizeOf20, v20 := Try.zeroValue20, t37 := Try.underlying45, a37 := Try.isAgg45, z37 := Try.sizeOf45,
  v37 := Try.zeroValue45, t46 := Try.underlying109, a46 := Try.isAgg109, z46 := Try.sizeOf109, v46 := Try.zeroValue109,
  t51 := Try.underlying128, a51 := Try.isAgg128, z51 := Try.sizeOf128, v51 := Try.zeroValue128,
  t53 := Try.underlying131, a53 := Try.isAgg131, z53 := Try.sizeOf131, v53 := Try.zeroValue131,
  t70 := Try.underlying112, a70 := Try.isAgg112, z70 := Try.sizeOf112, v70 := Try.zeroValue112,
  t72 := Try.underlying114, a72 := Try.isAgg114, z72 := Try.sizeOf114, v72 := Try.zeroValue114,
  t75 := Try.underlying117, a75 := Try.isAgg117, z75 := Try.sizeOf117, v75 := Try.zeroValue117,
  t76 := Try.underlying118, a76 := Try.isAgg118, z76 := Try.sizeOf118, v76 := Try.zeroValue118,
  t109 := Try.underlying110, a109 := Try.isAgg110, z109 := Try.sizeOf110, v109 := Try.zeroValue110,
  t127 := Try.underlying134, a127 := Try.isAgg134, z127 := Try.sizeOf134, v127 := Try.zeroValue134,
  t146 := Try.underlying129, a146 := Try.isAgg129, z146 := Try.sizeOf129, v146 := Try.zeroValue129,
  t148 := Try.underlying132, a148 := Try.isAgg132, z148 := Try.sizeOf132, v148 := Try.zeroValue132,
  t164 := Try.underlying143, a164 := Try.isAgg143, z164 := Try.sizeOf143, v164 := Try.zeroValue143 }

theorem extraRepeat : Builder.Extra Try.prog renR where
  sizeBuilder := by kernel_rfl
  liesBuilder := by kernel_rfl
  t5 := layRepeat.t5
  a5 := layRepeat.a5
  z5 := layRepeat.z5
  v5 := layRepeat.v5
  infoByte := by kernel_rfl
  cellsByte := by kernel_rfl
  sizeByte := by kernel_rfl
  neB5 := by decide

theorem p67 (s : List UInt8) (c : Int) (h0 : 0 ≤ c) (h1 : s.length * c.toNat ≤ 140737488355328) (h2 : c ≤ 9223372036854775807) : Pure Try.prog 67 [.str s, .int .i64 c] (.str (Lib.repeatL s c.toNat)) := by
  refine ⟨rfl, ⟨_, Try.func67, rfl, rfl⟩, fun A w vs hA hvl hv => ?_⟩
  have r0 := hv 0 _ rfl
  have r1 := hv 1 _ rfl
  have e : vs = #[.string ⟨s.toArray⟩, .int .i64 (c.toNat : Int)] := by
    have hsz : vs.size = 2 := hvl
    have q0 : vs.getD 0 undef = .string ⟨s.toArray⟩ := r0.str_inv
    have q1 : vs.getD 1 undef = .int .i64 c := r1.int_inv
    rw [show (c.toNat : Int) = c by omega, ← q0, ← q1]
    apply Array.ext
    · simpa using hsz
    · intro i hi hi2
      match i with
      | 0 => simp [Array.getD, hsz]
      | 1 => simp [Array.getD, hsz]
      | i + 2 => omega
  subst e
  have h := Any.strings_Repeat layRepeat extraRepeat ⟨s.toArray⟩ c.toNat w (by omega) (by show s.toArray.size * c.toNat ≤ _; simpa using h1)
  refine h.mono fun e w' he => ?_
  obtain ⟨rfl, hb⟩ := he
  exact ⟨_, rfl, by simpa using R.str _, hb⟩

end Go.Proofs.Ytefbgdnobnemkaa.AM
