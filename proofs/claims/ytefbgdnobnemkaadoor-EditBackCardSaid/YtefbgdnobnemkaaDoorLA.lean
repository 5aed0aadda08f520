/-
  strings.Repeat, strings.TrimLeft at ASCII, of the shelf.
-/
import Derived.Shelf.Strings.Repeat
import Derived.Shelf.Strings.SlTrimAscii
import Derived.Test.YtefbgdnobnemkaaDoorFA
set_option linter.unusedSimpArgs false
set_option linter.unusedVariables false
set_option linter.unusedSectionVars false
namespace Go.Proofs.YtefbgdnobnemkaaDoor.AM
open Go Go.Shelf Go.RowKit Go.Proofs
set_option maxRecDepth 100000

def renR : Ren :=
{
  f := fun x =>
    match x with
    | 105 => 61
    | 212 => 66
    | 99 => 67
    | 165 => 68
    | 166 => 69
    | 170 => 70
    | 169 => 71
    | 263 => 74
    | 264 => 75
    | 206 => 76
    | 240 => 77
    | 241 => 78
    | 276 => 83
    | 277 => 84
    | n => n,
  t := fun x =>
    match x with
    | 9 => 9
    | 3 => 3
    | 4 => 4
    | 20 => 20
    | 0 => 0
    | 46 => 94
    | 109 => 95
    | 5 => 5
    | 72 => 99
    | 76 => 103
    | 51 => 108
    | 146 => 109
    | 53 => 111
    | 148 => 112
    | 70 => 97
    | 37 => 66
    | 75 => 102
    | 127 => 114
    | 164 => 123
    | 80 => 106
    | n => n,
  g := fun x =>
    x }

theorem layRepeat : Lays.n105 Tryd.prog renR :=
{ mixed := Eq.refl true, f99 := Eq.trans Tryd.func67 (congrArg some (Eq.refl (Body.n99 renR))),
  f105 := Eq.trans Tryd.func61 (congrArg some (Eq.refl (Body.n105 renR))),
  f165 := Eq.trans Tryd.func68 (congrArg some (Eq.refl (Body.n165 renR))),
  f166 := Eq.trans Tryd.func69 (congrArg some (Eq.refl (Body.n166 renR))),
  f169 := Eq.trans Tryd.func71 (congrArg some (Eq.refl (Body.n169 renR))),
  f170 := Eq.trans Tryd.func70 (congrArg some (Eq.refl (Body.n170 renR))),
  f206 := Eq.trans Tryd.func76 (congrArg some (Eq.refl (Body.n206 renR))),
  f212 := Eq.trans Tryd.func66 (congrArg some (Eq.refl (Body.n212 renR))),
  f240 := Eq.trans Tryd.func77 (congrArg some (Eq.refl (Body.n240 renR))),
  f241 := Eq.trans Tryd.func78 (congrArg some (Eq.refl (Body.n241 renR))),
  f263 := Eq.trans Tryd.func74 (congrArg some (Eq.refl (Body.n263 renR))),
  f264 := Eq.trans Tryd.func75 (congrArg some (Eq.refl (Body.n264 renR))),
  f276 := Eq.trans Tryd.func83 (congrArg some (Eq.refl (Body.n276 renR))),
  f277 := Eq.trans Tryd.func84 (congrArg some (Eq.refl (Body.n277 renR))), t0 := Tryd.underlying0,
  a0 := Tryd.isAgg0, z0 := Tryd.sizeOf0, v0 := Tryd.zeroValue0, t3 := Tryd.underlying3, a3 := Tryd.isAgg3,
  z3 := Tryd.sizeOf3, v3 := Tryd.zeroValue3, t4 := Tryd.underlying4, a4 := Tryd.isAgg4, z4 := Tryd.sizeOf4,
  v4 := Tryd.zeroValue4, t5 := Tryd.underlying5, a5 := Tryd.isAgg5, z5 := Tryd.sizeOf5, v5 := Tryd.zeroValue5,
  t9 := Tryd.underlying9, a9 := Tryd.isAgg9, z9 := Tryd.sizeOf9, v9 := Tryd.zeroValue9, t20 := Tryd.underlying20,
  a20 := Tryd.isAgg20, z20 := Tryd.sizeOf20, v20 := Tryd.zeroValue20, t37 := Tryd.underlying66, a37 := Tryd.isAgg66,
  z37 := Tryd.sizeOf66, v37 := Tryd.zeroValue66, t46 := Tryd.underlying94, a46 := Tryd.isAgg94, z46 := Tryd.sizeOf94,
  v46 := Tryd.zeroValue94, t51 := Tryd.underlying108, a51 := Tryd.isAgg108, z51 := Tryd.sizeOf108,
  v51 := Tryd.zeroValue108, t53 := Tryd.underlying111, a53 := Tryd.isAgg111, z53 := Tryd.sizeOf111,
  v53 := Tryd.zeroValue111, t70 := Tryd.underlying97, a70 := Tryd.isAgg97, z70 := Tryd.sizeOf97,
  v70 := Tryd.zeroValue97, t72 := Tryd.underlying99, a72 := Tryd.isAgg99, z72 := Tryd.sizeOf99, v72 := Tryd.zeroValue99,
  t75 := Tryd.underlying102, a75 := Tryd.isAgg102, z75 := Tryd.sizeOf102, v75 := Tryd.zeroValue102,
  t76 := Tryd.underlying103, a76 := Tryd.isAgg103, z76 := Tryd.sizeOf103, v76 := Tryd.zeroValue103,
  t109 := Tryd.underlying95, a109 := Tryd.isAgg95, z109 := Tryd.sizeOf95, v109 := Tryd.zeroValue95,
  t127 := Tryd.underlying114, a127 := Tryd.isAgg114, z127 := Tryd.sizeOf114, v127 := Tryd.zeroValue114,
  t146 := Tryd.underlying109, a146 := Tryd.isAgg109, z146 := Tryd.sizeOf109, v146 := Tryd.zeroValue109,
  t148 := Tryd.underlying112, a148 := Tryd.isAgg112, z148 := Tryd.sizeOf112, v148 := Tryd.zeroValue112,
  t164 := Tryd.underlying123, a164 := Tryd.isAgg123, z164 := Tryd.sizeOf123, v164 := Tryd.zeroValue123 }

def renT : Ren :=
{
  f := fun x =>
    match x with
    | 161 => 38
    | 231 => 53
    | 227 => 54
    | 233 => 55
    | 235 => 56
    | 228 => 63
    | 197 => 64
    | 151 => 65
    | 260 => 72
    | 152 => 73
    | 137 => 79
    | 119 => 80
    | 224 => 81
    | 225 => 82
    | 217 => 85
    | 266 => 86
    | n => n,
  t := fun x =>
    match x with
    | 9 => 9
    | 4 => 4
    | 3 => 3
    | 5 => 5
    | 117 => 85
    | 116 => 84
    | 0 => 0
    | 124 => 88
    | 105 => 91
    | 21 => 21
    | 119 => 115
    | 46 => 94
    | 139 => 118
    | 138 => 117
    | n => n,
  g := fun x =>
    match x with
    | 3 => 0
    | 4 => 1
    | n => n }

theorem layTrim : Lays.n161 Tryd.prog renT :=
{ mixed := Eq.refl true, f119 := Eq.trans Tryd.func80 (congrArg some (Eq.refl (Body.n119 renT))),
  f137 := Eq.trans Tryd.func79 (congrArg some (Eq.refl (Body.n137 renT))),
  f151 := Eq.trans Tryd.func65 (congrArg some (Eq.refl (Body.n151 renT))),
  f152 := Eq.trans Tryd.func73 (congrArg some (Eq.refl (Body.n152 renT))),
  f161 := Eq.trans Tryd.func38 (congrArg some (Eq.refl (Body.n161 renT))),
  f197 := Eq.trans Tryd.func64 (congrArg some (Eq.refl (Body.n197 renT))),
  f217 := Eq.trans Tryd.func85 (congrArg some (Eq.refl (Body.n217 renT))),
  f224 := Eq.trans Tryd.func81 (congrArg some (Eq.refl (Body.n224 renT))),
  f225 := Eq.trans Tryd.func82 (congrArg some (Eq.refl (Body.n225 renT))),
  f227 := Eq.trans Tryd.func54 (congrArg some (Eq.refl (Body.n227 renT))),
  f228 := Eq.trans Tryd.func63 (congrArg some (Eq.refl (Body.n228 renT))),
  f231 := Eq.trans Tryd.func53 (congrArg some (Eq.refl (Body.n231 renT))),
  f233 := Eq.trans Tryd.func55 (congrArg some (Eq.refl (Body.n233 renT))),
  f235 := Eq.trans Tryd.func56 (congrArg some (Eq.refl (Body.n235 renT))),
  f260 := Eq.trans Tryd.func72 (congrArg some (Eq.refl (Body.n260 renT))),
  f266 := Eq.trans Tryd.func86 (congrArg some (Eq.refl (Body.n266 renT))), t0 := Tryd.underlying0,
  a0 := Tryd.isAgg0, z0 := Tryd.sizeOf0, v0 := Tryd.zeroValue0, t3 := Tryd.underlying3, a3 := Tryd.isAgg3,
  z3 := Tryd.sizeOf3, v3 := Tryd.zeroValue3, t4 := Tryd.underlying4, a4 := Tryd.isAgg4, z4 := Tryd.sizeOf4,
  v4 := Tryd.zeroValue4, t5 := Tryd.underlying5, a5 := Tryd.isAgg5, z5 := Tryd.sizeOf5, v5 := Tryd.zeroValue5,
  t9 := Tryd.underlying9, a9 := Tryd.isAgg9, z9 := Tryd.sizeOf9, v9 := Tryd.zeroValue9, t21 := Tryd.underlying21,
  a21 := Tryd.isAgg21, z21 := Tryd.sizeOf21, v21 := Tryd.zeroValue21, t46 := Tryd.underlying94, a46 := Tryd.isAgg94,
  z46 := Tryd.sizeOf94, v46 := Tryd.zeroValue94, t105 := Tryd.underlying91, a105 := Tryd.isAgg91, z105 := Tryd.sizeOf91,
  v105 := Tryd.zeroValue91, t116 := Tryd.underlying84, a116 := Tryd.isAgg84, z116 := Tryd.sizeOf84,
  t117 := Tryd.underlying85, a117 := Tryd.isAgg85, z117 := Tryd.sizeOf85, v117 := Tryd.zeroValue85,
  t119 := Tryd.underlying115, a119 := Tryd.isAgg115, z119 := Tryd.sizeOf115, t124 := Tryd.underlying88,
  a124 := Tryd.isAgg88, z124 := Tryd.sizeOf88, v124 := Tryd.zeroValue88, t138 := Tryd.underlying117,
  a138 := Tryd.isAgg117, z138 := Tryd.sizeOf117, v138 := Tryd.zeroValue117, t139 := Tryd.underlying118,
  a139 := Tryd.isAgg118, z139 := Tryd.sizeOf118, v139 := Tryd.zeroValue118, g3 := (by kernel_rfl),
  g4 := (by kernel_rfl) }

theorem extraRepeat : Builder.Extra Tryd.prog renR where
  sizeBuilder := by kernel_rfl
  liesBuilder := by kernel_rfl
  t5 := layRepeat.t5
  a5 := layRepeat.a5
  z5 := layRepeat.z5
  v5 := layRepeat.v5
  infoByte := by kernel_rfl
  cellsByte := by kernel_rfl
  sizeByte := by kernel_rfl
  neB5 := by decide

theorem p67 (s : List UInt8) (c : Int) (h0 : 0 ≤ c) (h1 : s.length * c.toNat ≤ 140737488355328) (h2 : c ≤ 9223372036854775807) : Pure Tryd.prog 61 [.str s, .int .i64 c] (.str (Lib.repeatL s c.toNat)) := by
  refine ⟨rfl, ⟨_, Tryd.func61, rfl, rfl⟩, fun A w vs hA hvl hv => ?_⟩
  have r0 := hv 0 _ rfl
  have r1 := hv 1 _ rfl
  have e : vs = #[.string ⟨s.toArray⟩, .int .i64 (c.toNat : Int)] := by
    have hsz : vs.size = 2 := hvl
    have q0 : vs.getD 0 undef = .string ⟨s.toArray⟩ := r0.str_inv
    have q1 : vs.getD 1 undef = .int .i64 c := r1.int_inv
    rw [show (c.toNat : Int) = c by omega, ← q0, ← q1]
    apply Array.ext
    · simpa using hsz
    · intro i hi hi2
      match i with
      | 0 => simp [Array.getD, hsz]
      | 1 => simp [Array.getD, hsz]
      | i + 2 => omega
  subst e
  have h := Any.strings_Repeat layRepeat extraRepeat ⟨s.toArray⟩ c.toNat w (by omega) (by show s.toArray.size * c.toNat ≤ _; simpa using h1)
  refine h.mono fun e w' he => ?_
  obtain ⟨rfl, hb⟩ := he
  exact ⟨_, rfl, by simpa using R.str _, hb⟩


def trimL (s : List UInt8) : List UInt8 := s.dropWhile blankB
theorem dropWhile_congr {α : Type} {p q : α → Bool} (h : ∀ x, p x = q x) (l : List α) : l.dropWhile p = l.dropWhile q := by
  rw [show p = q from funext h]
theorem blank_has (b : UInt8) : ([32, 9] : List UInt8).contains b = blankB b := by
  by_cases h1 : b = 32
  · subst h1; rfl
  · by_cases h2 : b = 9
    · subst h2; rfl
    · have e1 : ¬ ((b.toNat : Int) = 32 ∨ (b.toNat : Int) = 9) := by
        rintro (h | h)
        · exact h1 (UInt8.toNat_inj.1 (by show b.toNat = 32; omega))
        · exact h2 (UInt8.toNat_inj.1 (by show b.toNat = 9; omega))
      unfold blankB ofK
      rw [if_neg e1]
      simp [h1, h2]
theorem q38 (s : List UInt8) : Pure Tryd.prog 38 [.str s, .str [32, 9]] (.str (trimL s)) := by
  refine ⟨rfl, ⟨_, Tryd.func38, rfl, rfl⟩, fun A w vs hA hvl hv => ?_⟩
  have r0 := hv 0 _ rfl
  have r1 := hv 1 _ rfl
  have e : vs = #[.string ⟨s.toArray⟩, .string ⟨#[32, 9]⟩] := by
    have hsz : vs.size = 2 := hvl
    have q0 : vs.getD 0 undef = .string ⟨s.toArray⟩ := r0.str_inv
    have q1 : vs.getD 1 undef = .string ⟨#[32, 9]⟩ := r1.str_inv
    rw [← q0, ← q1]
    apply Array.ext
    · simpa using hsz
    · intro i hi hi2
      match i with
      | 0 => simp [Array.getD, hsz]
      | 1 => simp [Array.getD, hsz]
      | i + 2 => omega
  subst e
  have h := Any.strings_TrimLeft_laid layTrim (by kernel_rfl) ⟨s.toArray⟩ ⟨#[32, 9]⟩ w (by decide) (fun j b hj => by
    match j, hj with
    | 0, hj => cases hj; decide
    | 1, hj => cases hj; decide
    | j + 2, hj => simp at hj)
  refine h.mono fun e w' he => ?_
  obtain ⟨rfl, hb⟩ := he
  refine ⟨_, rfl, ?_, hb⟩
  have e2 : Lib.trimLeftS s [32, 9] = trimL s := dropWhile_congr blank_has s
  have := R.str (ρ := noRho) (A := fun b => A b ∨ (w.heap.size ≤ b ∧ b < w'.heap.size)) (w := w') (Lib.trimLeftS s [32, 9])
  rw [e2] at this
  simpa [e2] using this

end Go.Proofs.YtefbgdnobnemkaaDoor.AM
