/-
  Any key, at any place, in any mode.
-/
import Derived.Test.YtefbgdnobnemkaaG2
set_option linter.unusedSimpArgs false
set_option linter.unusedVariables false
namespace Go.Proofs.Ytefbgdnobnemkaa.AM
open Go Go.RowKit

theorem k37 (a : Int) (o n : List (List UInt8)) (h1 : o.length ≤ 1000000000000) (h2 : n.length ≤ 1000000000000) : Pure Try.prog 37 [.agg [.int .i64 a, .slS o, .slS n], .agg [.int .i64 a, .slS o, .slS n]] (.bool true) := by
  have h := p37 a a o n o n h1 h2
  simpa using h

theorem rowG2 {sz n : Nat} {cs : List AV} {a b c d : AV} (hs : sz = 2) (h : cs = [a, b, c, d]) (hn : n = 2) : (AV.slG sz cs).rowlen = some n := by subst hs h hn; simp [AV.rowlen]
theorem rowG23 {sz n : Nat} {cs : List AV} {a b c d e f : AV} (hs : sz = 2) (h : cs = [a, b, c, d, e, f]) (hn : n = 3) : (AV.slG sz cs).rowlen = some n := by subst hs h hn; simp [AV.rowlen]
theorem rowG1 {sz n : Nat} {cs : List AV} (hs : sz = 1) (hn : cs.length = n) : (AV.slG sz cs).rowlen = some n := by subst hs hn; simp [AV.rowlen]

/-- A block of a code, by its number. -/
def findB (n : Nat) : Code → Option Code
  | .seq a b => match findB n a with
    | some c => some c
    | none => findB n b
  | .cond _ a b => match findB n a with
    | some c => some c
    | none => findB n b
  | .block i a => match Nat.beq i n with
    | true => some (.block i a)
    | false => findB n a
  | .loop a => findB n a
  | .scope a => findB n a
  | _ => none
noncomputable def blk7 (n : Nat) : Code := match Try.f7.body with
  | some c => (findB n c).getD .skip
  | none => .skip

def s1 (ls : List (List UInt8)) (r1 r2 f1 f2 g1 g2 q1 q2 m k : Int) (i : Int) : TS := ⟨117, 7, (.node (.node (.node (.node (.node (.node (.node (.leaf (.slS ls)) (J 0)) (J 1)) (.node (J 1) (.node (.leaf (.own 48 2)) (J 0)))) (.node (.node (.node (.leaf (.int .u8 k)) (J 0)) (J 1)) (J 2))) (J 4)) (.node (.node (.node (J 2) (.node (.node (.leaf (.bool false)) (J 0)) (.node (.leaf (.int .i64 i)) (J 0)))) (.node (.node (.node (.leaf (.ptr 10 0)) (J 0)) (J 1)) (J 2))) (J 4))) (.node (.node (.node (.node (J 2) (.node (J 1) (.node (.leaf (.int .i64 2)) (J 0)))) (J 3)) (J 4)) (.node (.node (.node (J 2) (.node (.node (.leaf (.ptr 19 0)) (J 0)) (J 1))) (.node (.node (.node (.leaf (.ptr 11 0)) (J 0)) (J 1)) (J 2))) (.node (.node (.node (.node (.leaf (.int .i64 m)) (J 0)) (J 1)) (J 2)) (J 3))))), (.node (.node (.node (.node (.node (OO 2) (.node (OO 1) (.node (.leaf (some ⟨true, true, .slG 2 [.int .i64 r1, .int .i64 r2, .int .i64 q1, .int .i64 q2], 23⟩)) (OO 0)))) (OO 3)) (OO 4)) (.node (.node (OO 3) (.node (.node (.node (.leaf (some ⟨true, false, .agg [.int .i64 r1, .int .i64 r2], 23⟩)) (OO 0)) (OO 1)) (OO 2))) (OO 4))) (.node (OO 5) (.node (.node (.node (OO 2) (.node (.node (.leaf (some ⟨true, false, .agg [.int .i64 g1, .int .i64 g2], 23⟩)) (OO 0)) (OO 1))) (.node (.node (.node (.leaf (some ⟨true, false, .agg [.int .i64 f1, .int .i64 f2], 23⟩)) (OO 0)) (OO 1)) (OO 2))) (OO 4))))⟩
def s2 (ls : List (List UInt8)) (r1 r2 f1 f2 g1 g2 q1 q2 m k : Int) (i p1 p2 j : Int) : TS := ⟨117, 7, (.node (.node (.node (.node (.node (.node (.node (.leaf (.slS ls)) (J 0)) (J 1)) (.node (J 1) (.node (.leaf (.own 48 2)) (J 0)))) (.node (.node (.node (.leaf (.int .u8 k)) (J 0)) (J 1)) (.node (J 1) (.node (.leaf (.int .i64 3)) (J 0))))) (J 4)) (.node (.node (.node (J 2) (.node (.node (.leaf (.bool false)) (J 0)) (.node (.leaf (.int .i64 i)) (J 0)))) (.node (.node (.node (.leaf (.ptr 10 0)) (J 0)) (J 1)) (J 2))) (J 4))) (.node (.node (.node (.node (J 2) (.node (J 1) (.node (.leaf (.int .i64 2)) (J 0)))) (.node (J 2) (.node (J 1) (.node (.leaf (.int .i64 j)) (J 0))))) (.node (.node (J 2) (.node (.node (.leaf (.ptr 21 0)) (J 0)) (J 1))) (J 3))) (.node (.node (.node (J 2) (.node (.node (.leaf (.ptr 19 0)) (J 0)) (J 1))) (.node (.node (.node (.leaf (.ptr 11 0)) (J 0)) (J 1)) (J 2))) (.node (.node (.node (.node (.leaf (.int .i64 m)) (J 0)) (J 1)) (.node (J 1) (.node (.leaf (.own 55 3)) (J 0)))) (J 3))))), (.node (.node (.node (.node (.node (OO 2) (.node (OO 1) (.node (.leaf (some ⟨true, true, .slG 2 [.int .i64 r1, .int .i64 r2, .int .i64 q1, .int .i64 q2], 23⟩)) (OO 0)))) (OO 3)) (OO 4)) (.node (.node (OO 3) (.node (.node (.node (.leaf (some ⟨true, false, .agg [.int .i64 r1, .int .i64 r2], 23⟩)) (OO 0)) (OO 1)) (OO 2))) (OO 4))) (.node (.node (OO 4) (.node (.node (OO 2) (.node (.node (.leaf (some ⟨true, false, .agg [.int .i64 p1, .int .i64 p2], 23⟩)) (OO 0)) (OO 1))) (OO 3))) (.node (.node (.node (OO 2) (.node (.node (.leaf (some ⟨true, false, .agg [.int .i64 g1, .int .i64 g2], 23⟩)) (OO 0)) (OO 1))) (.node (.node (.node (.leaf (some ⟨true, false, .agg [.int .i64 f1, .int .i64 f2], 23⟩)) (OO 0)) (OO 1)) (OO 2))) (.node (.node (OO 2) (.node (OO 1) (.node (.leaf (some ⟨true, true, .slG 1 [.int .i64 m, .int .i64 1, .int .i64 2], 3⟩)) (OO 0)))) (OO 3)))))⟩
def s3 (ls : List (List UInt8)) (r1 r2 f1 f2 g1 g2 q1 q2 m k : Int) (i p1 p2 j m3 x : Int) : TS := ⟨117, 7, (.node (.node (.node (.node (.node (.node (.node (.leaf (.slS ls)) (.leaf (.int .i64 x))) (J 1)) (.node (J 1) (.node (.leaf (.own 48 2)) (J 0)))) (.node (.node (.node (.leaf (.int .u8 k)) (J 0)) (J 1)) (.node (J 1) (.node (.leaf (.int .i64 3)) (J 0))))) (J 4)) (.node (.node (.node (J 2) (.node (.node (.leaf (.bool false)) (J 0)) (.node (.leaf (.int .i64 i)) (J 0)))) (.node (.node (.node (.leaf (.ptr 10 0)) (J 0)) (J 1)) (J 2))) (.node (J 3) (.node (J 2) (.node (J 1) (.node (.leaf (.own 62 5)) (J 0))))))) (.node (.node (.node (.node (J 2) (.node (J 1) (.node (.leaf (.int .i64 2)) (J 0)))) (.node (J 2) (.node (J 1) (.node (.leaf (.int .i64 j)) (J 0))))) (.node (.node (J 2) (.node (.node (.leaf (.ptr 21 0)) (J 0)) (J 1))) (J 3))) (.node (.node (.node (J 2) (.node (.node (.leaf (.ptr 19 0)) (J 0)) (J 1))) (.node (.node (.node (.leaf (.ptr 11 0)) (J 0)) (J 1)) (J 2))) (.node (.node (.node (.node (.leaf (.int .i64 m)) (J 0)) (J 1)) (.node (.node (.leaf (.int .i64 m3)) (J 0)) (.node (.leaf (.own 55 3)) (J 0)))) (.node (J 2) (.node (J 1) (.node (.leaf (.int .i64 5)) (J 0)))))))), (.node (.node (.node (.node (.node (OO 2) (.node (OO 1) (.node (.leaf (some ⟨true, true, .slG 2 [.int .i64 r1, .int .i64 r2, .int .i64 q1, .int .i64 q2], 23⟩)) (OO 0)))) (OO 3)) (OO 4)) (.node (.node (OO 3) (.node (.node (.node (.leaf (some ⟨true, false, .agg [.int .i64 r1, .int .i64 r2], 23⟩)) (OO 0)) (OO 1)) (OO 2))) (.node (OO 3) (.node (OO 2) (.node (OO 1) (.node (.leaf (some ⟨true, true, .slG 1 [.int .u8 k, .int .u8 120, .int .u8 8, .int .u8 13, .int .u8 127], 5⟩)) (OO 0))))))) (.node (.node (OO 4) (.node (.node (OO 2) (.node (.node (.leaf (some ⟨true, false, .agg [.int .i64 p1, .int .i64 p2], 23⟩)) (OO 0)) (OO 1))) (OO 3))) (.node (.node (.node (OO 2) (.node (.node (.leaf (some ⟨true, false, .agg [.int .i64 g1, .int .i64 g2], 23⟩)) (OO 0)) (OO 1))) (.node (.node (.node (.leaf (some ⟨true, false, .agg [.int .i64 f1, .int .i64 f2], 23⟩)) (OO 0)) (OO 1)) (OO 2))) (.node (.node (OO 2) (.node (OO 1) (.node (.leaf (some ⟨true, true, .slG 1 [.int .i64 m, .int .i64 1, .int .i64 2], 3⟩)) (OO 0)))) (OO 3)))))⟩
def s4 (ls : List (List UInt8)) (r1 r2 f1 f2 g1 g2 q1 q2 m k : Int) (i p1 p2 j m3 x k4 y : Int) : TS := ⟨117, 7, (.node (.node (.node (.node (.node (.node (.node (.leaf (.slS ls)) (.leaf (.int .i64 x))) (J 1)) (.node (J 1) (.node (.leaf (.own 48 2)) (J 0)))) (.node (.node (.node (.leaf (.int .u8 k)) (J 0)) (J 1)) (.node (J 1) (.node (.leaf (.int .i64 3)) (J 0))))) (J 4)) (.node (.node (.node (J 2) (.node (.node (.leaf (.bool false)) (J 0)) (.node (.leaf (.int .i64 i)) (J 0)))) (.node (.node (.node (.leaf (.ptr 10 0)) (.leaf (.int .i64 3))) (J 1)) (J 2))) (.node (J 3) (.node (J 2) (.node (J 1) (.node (.leaf (.own 62 5)) (J 0))))))) (.node (.node (.node (.node (J 2) (.node (J 1) (.node (.leaf (.int .i64 2)) (J 0)))) (.node (.node (.node (J 0) (.leaf (.own 73 3))) (J 1)) (.node (.node (.leaf (.int .u8 k4)) (J 0)) (.node (.leaf (.int .i64 j)) (J 0))))) (.node (.node (J 2) (.node (.node (.leaf (.ptr 21 0)) (J 0)) (J 1))) (J 3))) (.node (.node (.node (J 2) (.node (.node (.leaf (.ptr 19 0)) (J 0)) (J 1))) (.node (.node (.node (.leaf (.ptr 11 0)) (.leaf (.int .i64 y))) (J 1)) (J 2))) (.node (.node (.node (.node (.leaf (.int .i64 m)) (J 0)) (J 1)) (.node (.node (.leaf (.int .i64 m3)) (J 0)) (.node (.leaf (.own 55 3)) (J 0)))) (.node (J 2) (.node (J 1) (.node (.leaf (.int .i64 5)) (J 0)))))))), (.node (.node (.node (.node (.node (OO 2) (.node (OO 1) (.node (.leaf (some ⟨true, true, .slG 2 [.int .i64 r1, .int .i64 r2, .int .i64 q1, .int .i64 q2], 23⟩)) (OO 0)))) (OO 3)) (OO 4)) (.node (.node (OO 3) (.node (.node (.node (.leaf (some ⟨true, false, .agg [.int .i64 r1, .int .i64 r2], 23⟩)) (OO 0)) (OO 1)) (OO 2))) (.node (OO 3) (.node (OO 2) (.node (OO 1) (.node (.leaf (some ⟨true, true, .slG 1 [.int .u8 k, .int .u8 120, .int .u8 8, .int .u8 13, .int .u8 127], 5⟩)) (OO 0))))))) (.node (.node (.node (OO 3) (.node (.node (.node (OO 0) (.leaf (some ⟨true, true, .slG 2 [.int .i64 f1, .int .i64 f2, .int .i64 g1, .int .i64 g2, .int .i64 p1, .int .i64 0], 23⟩))) (OO 1)) (OO 2))) (.node (.node (OO 2) (.node (.node (.leaf (some ⟨true, false, .agg [.int .i64 p1, .int .i64 p2], 23⟩)) (OO 0)) (OO 1))) (OO 3))) (.node (.node (.node (OO 2) (.node (.node (.leaf (some ⟨true, false, .agg [.int .i64 g1, .int .i64 g2], 23⟩)) (OO 0)) (OO 1))) (.node (.node (.node (.leaf (some ⟨true, false, .agg [.int .i64 f1, .int .i64 f2], 23⟩)) (OO 0)) (OO 1)) (OO 2))) (.node (.node (OO 2) (.node (OO 1) (.node (.leaf (some ⟨true, true, .slG 1 [.int .i64 m, .int .i64 1, .int .i64 2], 3⟩)) (OO 0)))) (OO 3)))))⟩

section
variable (ls : List (List UInt8)) (r1 r2 f1 f2 g1 g2 q1 q2 m k : Int)
set_option maxRecDepth 10000 in
set_option maxHeartbeats 8000000 in
theorem l4 (i p1 p2 j m3 x k4 : Int) (hB : ∀ n : Nat, (ls.getD n []).length ≤ 140737488355328) (hl : ls.length ≤ 40) (hr : ∀ n : Nat, (ls.getD n []).length ≤ 1200) (hk : inK .u8 k4) {Q : Exit → TS → Prop} (hQ : Q .normal (s3 ls r1 r2 f1 f2 g1 g2 q1 q2 m k i p1 p2 j m3 x)) :
    HoldsT Try.prog (blk7 6) (s4 ls r1 r2 f1 f2 g1 g2 q1 q2 m k i p1 p2 j m3 x k4 0) Q := by
  have sm := fun (l c fl fc m k : Int) => typeL_small (ls := ls) (l := l) (c := c) (fl := fl) (fc := fc) (m := m) (k := k) (b := 1200) hr
  have k35 := fun (l c fl fc m k : Int) (hk : inK .u8 k) => p35 ls l c fl fc m k (by omega) hB hk
  have k36 := fun (l c fl fc m k : Int) (hk : inK .u8 k) => p36 ls l c fl fc m k (by omega) hB hk
  have k37' := fun (l c fl fc m k : Int) => k37 (typeL ls l c fl fc m k).at' (typeL ls l c fl fc m k).old (typeL ls l c fl fc m k).new (by have := sm l c fl fc m k; omega) (by have := sm l c fl fc m k; omega)
  refine HoldsT.block ?_
  refine HoldsT.loop (fun y : Int => s4 ls r1 r2 f1 f2 g1 g2 q1 q2 m k i p1 p2 j m3 x k4 y) (fun y => (3 - y).toNat) (fun y => y = 0 ∨ y = 1 ∨ y = 2 ∨ y = 3) 0 (.refl _) (.inl rfl) (fun _ => by kernel_rfl) ?_
  intro y hy
  rcases hy with rfl | rfl | rfl | rfl
  · show HoldsT Try.prog _ (s4 ls r1 r2 f1 f2 g1 g2 q1 q2 m k i p1 p2 j m3 x k4 0) _
    repeat' (first
      | refine allProp_T ?_
      | exact trivial
      | (refine URun.id ?_; first
          | refine URun.nil ?_
          | refine URun.many tabs rfl rfl (by kernel_rfl) ?_ ?_
          | (refine URun.toCall 35 rfl ?_; first
            | refine URun.call tabs rfl rfl rfl rfl (k35 _ _ _ _ _ _ hk) rfl rfl ?_ rfl ?_)
          | (refine URun.toCall 36 rfl ?_; first
            | refine URun.call tabs rfl rfl rfl rfl (k36 _ _ _ _ _ _ hk) rfl rfl ?_ rfl ?_)
          | (refine URun.toCall 37 rfl ?_; first
            | refine URun.call tabs rfl rfl rfl rfl (k37' _ _ _ _ _ _) rfl rfl ?_ rfl ?_)
          | refine URun.same tabs rfl rfl rfl ?_
          | refine URun.same2 tabs rfl rfl rfl ?_
          | refine URun.yes tabs rfl rfl (by decide) rfl ?_
          | refine URun.no tabs rfl rfl (by decide) rfl ?_
          | refine URun.yes tabs rfl rfl (fun h => h rfl) rfl ?_
          | refine URun.no tabs rfl rfl (fun h => h rfl) rfl ?_
          | refine URun.yes tabs rfl rfl (fun h => h ⟨rfl, rfl⟩) rfl ?_
          | refine URun.no tabs rfl rfl (fun h => h ⟨rfl, rfl⟩) rfl ?_
          | refine URun.split tabs rfl rfl rfl rfl (fun h => ?_) (fun h => ?_))
      | (refine TRun.id ?_; first
          | refine TRun.nil ?_
          | refine TRun.many rfl rfl (by kernel_rfl) ?_ ?_
          | (refine TRun.toCall 35 rfl ?_; first
            | refine TRun.call rfl rfl rfl rfl (k35 _ _ _ _ _ _ hk) rfl rfl ?_ rfl ?_)
          | (refine TRun.toCall 36 rfl ?_; first
            | refine TRun.call rfl rfl rfl rfl (k36 _ _ _ _ _ _ hk) rfl rfl ?_ rfl ?_)
          | (refine TRun.toCall 37 rfl ?_; first
            | refine TRun.call rfl rfl rfl rfl (k37' _ _ _ _ _ _) rfl rfl ?_ rfl ?_)
          | refine TRun.same rfl rfl rfl ?_
          | refine TRun.same2 rfl rfl rfl ?_
          | refine TRun.yes rfl rfl (by decide) rfl ?_
          | refine TRun.no rfl rfl (by decide) rfl ?_
          | refine TRun.yes rfl rfl (fun h => h rfl) rfl ?_
          | refine TRun.no rfl rfl (fun h => h rfl) rfl ?_
          | refine TRun.yes rfl rfl (fun h => h ⟨rfl, rfl⟩) rfl ?_
          | refine TRun.no rfl rfl (fun h => h ⟨rfl, rfl⟩) rfl ?_
          | refine TRun.split rfl rfl rfl rfl (fun h => ?_) (fun h => ?_))
      | (refine HoldsT.id ?_; first
          | refine HoldsT.weak ?_ (HoldsT.exit hQ)
          | refine HoldsT.seq ?_
          | refine HoldsT.regionU ?_
          | refine HoldsT.drawn tabs ?_
          | refine HoldsT.yes rfl ?_
          | refine HoldsT.no rfl ?_
          | refine HoldsT.cond rfl (fun h => ?_) (fun h => ?_)
          | refine HoldsT.block ?_
          | refine HoldsT.ret ?_
          | refine HoldsT.skip ?_
          | refine HoldsT.exit ?_)
      | (refine okTr_intro ?_; kernel_rfl)
      | exact absurd rfl h
      | exact rowG2 rfl rfl rfl
      | exact rowG23 rfl rfl rfl
      | exact rowG1 rfl rfl
      | refine allProp_C ?_ ?_
      | refine And.intro ?_ ?_
      | omega
      | (show _ < List.length _; omega)
      | exact rowlen_intro rfl
      | exact lenEq_intro rfl
      | exact Nat.le_of_ble_eq_true rfl
      | (simp only [AV.rowlenD, AV.rowlen, AV.ncells, mulSz, toN, Option.map_some, Option.map_none, cutL, List.length_take, List.length_drop, List.length_append, List.length_cons, List.length_nil, List.length_set, Option.some.injEq, Int.reduceToNat] <;> omega))
    · refine ⟨1, ⟨by decide, by decide⟩, ?_⟩
      refine WeakT.of ?_ ?_ (by kernel_rfl)
      · repeat' (first | exact TTle.junk _ _ | exact TTle.same _ | refine TTle.node ?_ ?_ | refine TTle.leaf ?_ | exact AVle.junk _ | exact AVle.rfl' rfl | exact AVle.nilS | exact AVle.nilB)
      · repeat' (first | exact OOle.none _ _ | exact OOle.same _ | refine OOle.node ?_ ?_ | exact OOle.leaf _ | exact OOle.gone _)
  · show HoldsT Try.prog _ (s4 ls r1 r2 f1 f2 g1 g2 q1 q2 m k i p1 p2 j m3 x k4 1) _
    repeat' (first
      | refine allProp_T ?_
      | exact trivial
      | (refine URun.id ?_; first
          | refine URun.nil ?_
          | refine URun.many tabs rfl rfl (by kernel_rfl) ?_ ?_
          | (refine URun.toCall 35 rfl ?_; first
            | refine URun.call tabs rfl rfl rfl rfl (k35 _ _ _ _ _ _ hk) rfl rfl ?_ rfl ?_)
          | (refine URun.toCall 36 rfl ?_; first
            | refine URun.call tabs rfl rfl rfl rfl (k36 _ _ _ _ _ _ hk) rfl rfl ?_ rfl ?_)
          | (refine URun.toCall 37 rfl ?_; first
            | refine URun.call tabs rfl rfl rfl rfl (k37' _ _ _ _ _ _) rfl rfl ?_ rfl ?_)
          | refine URun.same tabs rfl rfl rfl ?_
          | refine URun.same2 tabs rfl rfl rfl ?_
          | refine URun.yes tabs rfl rfl (by decide) rfl ?_
          | refine URun.no tabs rfl rfl (by decide) rfl ?_
          | refine URun.yes tabs rfl rfl (fun h => h rfl) rfl ?_
          | refine URun.no tabs rfl rfl (fun h => h rfl) rfl ?_
          | refine URun.yes tabs rfl rfl (fun h => h ⟨rfl, rfl⟩) rfl ?_
          | refine URun.no tabs rfl rfl (fun h => h ⟨rfl, rfl⟩) rfl ?_
          | refine URun.split tabs rfl rfl rfl rfl (fun h => ?_) (fun h => ?_))
      | (refine TRun.id ?_; first
          | refine TRun.nil ?_
          | refine TRun.many rfl rfl (by kernel_rfl) ?_ ?_
          | (refine TRun.toCall 35 rfl ?_; first
            | refine TRun.call rfl rfl rfl rfl (k35 _ _ _ _ _ _ hk) rfl rfl ?_ rfl ?_)
          | (refine TRun.toCall 36 rfl ?_; first
            | refine TRun.call rfl rfl rfl rfl (k36 _ _ _ _ _ _ hk) rfl rfl ?_ rfl ?_)
          | (refine TRun.toCall 37 rfl ?_; first
            | refine TRun.call rfl rfl rfl rfl (k37' _ _ _ _ _ _) rfl rfl ?_ rfl ?_)
          | refine TRun.same rfl rfl rfl ?_
          | refine TRun.same2 rfl rfl rfl ?_
          | refine TRun.yes rfl rfl (by decide) rfl ?_
          | refine TRun.no rfl rfl (by decide) rfl ?_
          | refine TRun.yes rfl rfl (fun h => h rfl) rfl ?_
          | refine TRun.no rfl rfl (fun h => h rfl) rfl ?_
          | refine TRun.yes rfl rfl (fun h => h ⟨rfl, rfl⟩) rfl ?_
          | refine TRun.no rfl rfl (fun h => h ⟨rfl, rfl⟩) rfl ?_
          | refine TRun.split rfl rfl rfl rfl (fun h => ?_) (fun h => ?_))
      | (refine HoldsT.id ?_; first
          | refine HoldsT.weak ?_ (HoldsT.exit hQ)
          | refine HoldsT.seq ?_
          | refine HoldsT.regionU ?_
          | refine HoldsT.drawn tabs ?_
          | refine HoldsT.yes rfl ?_
          | refine HoldsT.no rfl ?_
          | refine HoldsT.cond rfl (fun h => ?_) (fun h => ?_)
          | refine HoldsT.block ?_
          | refine HoldsT.ret ?_
          | refine HoldsT.skip ?_
          | refine HoldsT.exit ?_)
      | (refine okTr_intro ?_; kernel_rfl)
      | exact absurd rfl h
      | exact rowG2 rfl rfl rfl
      | exact rowG23 rfl rfl rfl
      | exact rowG1 rfl rfl
      | refine allProp_C ?_ ?_
      | refine And.intro ?_ ?_
      | omega
      | (show _ < List.length _; omega)
      | exact rowlen_intro rfl
      | exact lenEq_intro rfl
      | exact Nat.le_of_ble_eq_true rfl
      | (simp only [AV.rowlenD, AV.rowlen, AV.ncells, mulSz, toN, Option.map_some, Option.map_none, cutL, List.length_take, List.length_drop, List.length_append, List.length_cons, List.length_nil, List.length_set, Option.some.injEq, Int.reduceToNat] <;> omega))
    · refine ⟨2, ⟨by decide, by decide⟩, ?_⟩
      refine WeakT.of ?_ ?_ (by kernel_rfl)
      · repeat' (first | exact TTle.junk _ _ | exact TTle.same _ | refine TTle.node ?_ ?_ | refine TTle.leaf ?_ | exact AVle.junk _ | exact AVle.rfl' rfl | exact AVle.nilS | exact AVle.nilB)
      · repeat' (first | exact OOle.none _ _ | exact OOle.same _ | refine OOle.node ?_ ?_ | exact OOle.leaf _ | exact OOle.gone _)
  · show HoldsT Try.prog _ (s4 ls r1 r2 f1 f2 g1 g2 q1 q2 m k i p1 p2 j m3 x k4 2) _
    repeat' (first
      | refine allProp_T ?_
      | exact trivial
      | (refine URun.id ?_; first
          | refine URun.nil ?_
          | refine URun.many tabs rfl rfl (by kernel_rfl) ?_ ?_
          | (refine URun.toCall 35 rfl ?_; first
            | refine URun.call tabs rfl rfl rfl rfl (k35 _ _ _ _ _ _ hk) rfl rfl ?_ rfl ?_)
          | (refine URun.toCall 36 rfl ?_; first
            | refine URun.call tabs rfl rfl rfl rfl (k36 _ _ _ _ _ _ hk) rfl rfl ?_ rfl ?_)
          | (refine URun.toCall 37 rfl ?_; first
            | refine URun.call tabs rfl rfl rfl rfl (k37' _ _ _ _ _ _) rfl rfl ?_ rfl ?_)
          | refine URun.same tabs rfl rfl rfl ?_
          | refine URun.same2 tabs rfl rfl rfl ?_
          | refine URun.yes tabs rfl rfl (by decide) rfl ?_
          | refine URun.no tabs rfl rfl (by decide) rfl ?_
          | refine URun.yes tabs rfl rfl (fun h => h rfl) rfl ?_
          | refine URun.no tabs rfl rfl (fun h => h rfl) rfl ?_
          | refine URun.yes tabs rfl rfl (fun h => h ⟨rfl, rfl⟩) rfl ?_
          | refine URun.no tabs rfl rfl (fun h => h ⟨rfl, rfl⟩) rfl ?_
          | refine URun.split tabs rfl rfl rfl rfl (fun h => ?_) (fun h => ?_))
      | (refine TRun.id ?_; first
          | refine TRun.nil ?_
          | refine TRun.many rfl rfl (by kernel_rfl) ?_ ?_
          | (refine TRun.toCall 35 rfl ?_; first
            | refine TRun.call rfl rfl rfl rfl (k35 _ _ _ _ _ _ hk) rfl rfl ?_ rfl ?_)
          | (refine TRun.toCall 36 rfl ?_; first
            | refine TRun.call rfl rfl rfl rfl (k36 _ _ _ _ _ _ hk) rfl rfl ?_ rfl ?_)
          | (refine TRun.toCall 37 rfl ?_; first
            | refine TRun.call rfl rfl rfl rfl (k37' _ _ _ _ _ _) rfl rfl ?_ rfl ?_)
          | refine TRun.same rfl rfl rfl ?_
          | refine TRun.same2 rfl rfl rfl ?_
          | refine TRun.yes rfl rfl (by decide) rfl ?_
          | refine TRun.no rfl rfl (by decide) rfl ?_
          | refine TRun.yes rfl rfl (fun h => h rfl) rfl ?_
          | refine TRun.no rfl rfl (fun h => h rfl) rfl ?_
          | refine TRun.yes rfl rfl (fun h => h ⟨rfl, rfl⟩) rfl ?_
          | refine TRun.no rfl rfl (fun h => h ⟨rfl, rfl⟩) rfl ?_
          | refine TRun.split rfl rfl rfl rfl (fun h => ?_) (fun h => ?_))
      | (refine HoldsT.id ?_; first
          | refine HoldsT.weak ?_ (HoldsT.exit hQ)
          | refine HoldsT.seq ?_
          | refine HoldsT.regionU ?_
          | refine HoldsT.drawn tabs ?_
          | refine HoldsT.yes rfl ?_
          | refine HoldsT.no rfl ?_
          | refine HoldsT.cond rfl (fun h => ?_) (fun h => ?_)
          | refine HoldsT.block ?_
          | refine HoldsT.ret ?_
          | refine HoldsT.skip ?_
          | refine HoldsT.exit ?_)
      | (refine okTr_intro ?_; kernel_rfl)
      | exact absurd rfl h
      | exact rowG2 rfl rfl rfl
      | exact rowG23 rfl rfl rfl
      | exact rowG1 rfl rfl
      | refine allProp_C ?_ ?_
      | refine And.intro ?_ ?_
      | omega
      | (show _ < List.length _; omega)
      | exact rowlen_intro rfl
      | exact lenEq_intro rfl
      | exact Nat.le_of_ble_eq_true rfl
      | (simp only [AV.rowlenD, AV.rowlen, AV.ncells, mulSz, toN, Option.map_some, Option.map_none, cutL, List.length_take, List.length_drop, List.length_append, List.length_cons, List.length_nil, List.length_set, Option.some.injEq, Int.reduceToNat] <;> omega))
    · refine ⟨3, ⟨by decide, by decide⟩, ?_⟩
      refine WeakT.of ?_ ?_ (by kernel_rfl)
      · repeat' (first | exact TTle.junk _ _ | exact TTle.same _ | refine TTle.node ?_ ?_ | refine TTle.leaf ?_ | exact AVle.junk _ | exact AVle.rfl' rfl | exact AVle.nilS | exact AVle.nilB)
      · repeat' (first | exact OOle.none _ _ | exact OOle.same _ | refine OOle.node ?_ ?_ | exact OOle.leaf _ | exact OOle.gone _)
  · show HoldsT Try.prog _ (s4 ls r1 r2 f1 f2 g1 g2 q1 q2 m k i p1 p2 j m3 x k4 3) _
    repeat' (first
      | refine allProp_T ?_
      | exact trivial
      | (refine URun.id ?_; first
          | refine URun.nil ?_
          | refine URun.many tabs rfl rfl (by kernel_rfl) ?_ ?_
          | (refine URun.toCall 35 rfl ?_; first
            | refine URun.call tabs rfl rfl rfl rfl (k35 _ _ _ _ _ _ hk) rfl rfl ?_ rfl ?_)
          | (refine URun.toCall 36 rfl ?_; first
            | refine URun.call tabs rfl rfl rfl rfl (k36 _ _ _ _ _ _ hk) rfl rfl ?_ rfl ?_)
          | (refine URun.toCall 37 rfl ?_; first
            | refine URun.call tabs rfl rfl rfl rfl (k37' _ _ _ _ _ _) rfl rfl ?_ rfl ?_)
          | refine URun.same tabs rfl rfl rfl ?_
          | refine URun.same2 tabs rfl rfl rfl ?_
          | refine URun.yes tabs rfl rfl (by decide) rfl ?_
          | refine URun.no tabs rfl rfl (by decide) rfl ?_
          | refine URun.yes tabs rfl rfl (fun h => h rfl) rfl ?_
          | refine URun.no tabs rfl rfl (fun h => h rfl) rfl ?_
          | refine URun.yes tabs rfl rfl (fun h => h ⟨rfl, rfl⟩) rfl ?_
          | refine URun.no tabs rfl rfl (fun h => h ⟨rfl, rfl⟩) rfl ?_
          | refine URun.split tabs rfl rfl rfl rfl (fun h => ?_) (fun h => ?_))
      | (refine TRun.id ?_; first
          | refine TRun.nil ?_
          | refine TRun.many rfl rfl (by kernel_rfl) ?_ ?_
          | (refine TRun.toCall 35 rfl ?_; first
            | refine TRun.call rfl rfl rfl rfl (k35 _ _ _ _ _ _ hk) rfl rfl ?_ rfl ?_)
          | (refine TRun.toCall 36 rfl ?_; first
            | refine TRun.call rfl rfl rfl rfl (k36 _ _ _ _ _ _ hk) rfl rfl ?_ rfl ?_)
          | (refine TRun.toCall 37 rfl ?_; first
            | refine TRun.call rfl rfl rfl rfl (k37' _ _ _ _ _ _) rfl rfl ?_ rfl ?_)
          | refine TRun.same rfl rfl rfl ?_
          | refine TRun.same2 rfl rfl rfl ?_
          | refine TRun.yes rfl rfl (by decide) rfl ?_
          | refine TRun.no rfl rfl (by decide) rfl ?_
          | refine TRun.yes rfl rfl (fun h => h rfl) rfl ?_
          | refine TRun.no rfl rfl (fun h => h rfl) rfl ?_
          | refine TRun.yes rfl rfl (fun h => h ⟨rfl, rfl⟩) rfl ?_
          | refine TRun.no rfl rfl (fun h => h ⟨rfl, rfl⟩) rfl ?_
          | refine TRun.split rfl rfl rfl rfl (fun h => ?_) (fun h => ?_))
      | (refine HoldsT.id ?_; first
          | refine HoldsT.weak ?_ (HoldsT.exit hQ)
          | refine HoldsT.seq ?_
          | refine HoldsT.regionU ?_
          | refine HoldsT.drawn tabs ?_
          | refine HoldsT.yes rfl ?_
          | refine HoldsT.no rfl ?_
          | refine HoldsT.cond rfl (fun h => ?_) (fun h => ?_)
          | refine HoldsT.block ?_
          | refine HoldsT.ret ?_
          | refine HoldsT.skip ?_
          | refine HoldsT.exit ?_)
      | (refine okTr_intro ?_; kernel_rfl)
      | exact absurd rfl h
      | exact rowG2 rfl rfl rfl
      | exact rowG23 rfl rfl rfl
      | exact rowG1 rfl rfl
      | refine allProp_C ?_ ?_
      | refine And.intro ?_ ?_
      | omega
      | (show _ < List.length _; omega)
      | exact rowlen_intro rfl
      | exact lenEq_intro rfl
      | exact Nat.le_of_ble_eq_true rfl
      | (simp only [AV.rowlenD, AV.rowlen, AV.ncells, mulSz, toN, Option.map_some, Option.map_none, cutL, List.length_take, List.length_drop, List.length_append, List.length_cons, List.length_nil, List.length_set, Option.some.injEq, Int.reduceToNat] <;> omega))
    · refine WeakT.of ?_ ?_ (by kernel_rfl)
      · repeat' (first | exact TTle.junk _ _ | exact TTle.same _ | refine TTle.node ?_ ?_ | refine TTle.leaf ?_ | exact AVle.junk _ | exact AVle.rfl' rfl | exact AVle.nilS | exact AVle.nilB)
      · repeat' (first | exact OOle.none _ _ | exact OOle.same _ | refine OOle.node ?_ ?_ | exact OOle.leaf _ | exact OOle.gone _)
set_option maxRecDepth 10000 in
set_option maxHeartbeats 8000000 in
theorem l3 (i p1 p2 j m3 : Int) (hB : ∀ n : Nat, (ls.getD n []).length ≤ 140737488355328) (hl : ls.length ≤ 40) (hr : ∀ n : Nat, (ls.getD n []).length ≤ 1200) (hk : inK .u8 k) {Q : Exit → TS → Prop} (hQ : Q .normal (s2 ls r1 r2 f1 f2 g1 g2 q1 q2 m k i p1 p2 j)) :
    HoldsT Try.prog (blk7 4) (s3 ls r1 r2 f1 f2 g1 g2 q1 q2 m k i p1 p2 j m3 0) Q := by
  refine HoldsT.block ?_
  refine HoldsT.loop (fun x : Int => s3 ls r1 r2 f1 f2 g1 g2 q1 q2 m k i p1 p2 j m3 x) (fun x => (5 - x).toNat) (fun x => x = 0 ∨ x = 1 ∨ x = 2 ∨ x = 3 ∨ x = 4 ∨ x = 5) 0 (.refl _) (.inl rfl) (fun _ => by kernel_rfl) ?_
  intro x hx
  rcases hx with rfl | rfl | rfl | rfl | rfl | rfl
  · show HoldsT Try.prog _ (s3 ls r1 r2 f1 f2 g1 g2 q1 q2 m k i p1 p2 j m3 0) _
    repeat' (first
      | refine allProp_T ?_
      | exact trivial
      | (refine URun.id ?_; first
          | refine URun.nil ?_
          | refine URun.many tabs rfl rfl (by kernel_rfl) ?_ ?_
          | refine URun.same tabs rfl rfl rfl ?_
          | refine URun.same2 tabs rfl rfl rfl ?_
          | refine URun.yes tabs rfl rfl (by decide) rfl ?_
          | refine URun.no tabs rfl rfl (by decide) rfl ?_
          | refine URun.yes tabs rfl rfl (fun h => h rfl) rfl ?_
          | refine URun.no tabs rfl rfl (fun h => h rfl) rfl ?_
          | refine URun.yes tabs rfl rfl (fun h => h ⟨rfl, rfl⟩) rfl ?_
          | refine URun.no tabs rfl rfl (fun h => h ⟨rfl, rfl⟩) rfl ?_
          | refine URun.split tabs rfl rfl rfl rfl (fun h => ?_) (fun h => ?_))
      | (refine TRun.id ?_; first
          | refine TRun.nil ?_
          | refine TRun.many rfl rfl (by kernel_rfl) ?_ ?_
          | refine TRun.same rfl rfl rfl ?_
          | refine TRun.same2 rfl rfl rfl ?_
          | refine TRun.yes rfl rfl (by decide) rfl ?_
          | refine TRun.no rfl rfl (by decide) rfl ?_
          | refine TRun.yes rfl rfl (fun h => h rfl) rfl ?_
          | refine TRun.no rfl rfl (fun h => h rfl) rfl ?_
          | refine TRun.yes rfl rfl (fun h => h ⟨rfl, rfl⟩) rfl ?_
          | refine TRun.no rfl rfl (fun h => h ⟨rfl, rfl⟩) rfl ?_
          | refine TRun.split rfl rfl rfl rfl (fun h => ?_) (fun h => ?_))
      | (refine HoldsT.id ?_; first
          | refine HoldsT.weak ?_ (l4 ls r1 r2 f1 f2 g1 g2 q1 q2 m k i p1 p2 j m3 0 k hB hl hr hk ?_)
          | refine HoldsT.weak ?_ (HoldsT.exit hQ)
          | refine HoldsT.seq ?_
          | refine HoldsT.regionU ?_
          | refine HoldsT.drawn tabs ?_
          | refine HoldsT.yes rfl ?_
          | refine HoldsT.no rfl ?_
          | refine HoldsT.cond rfl (fun h => ?_) (fun h => ?_)
          | refine HoldsT.block ?_
          | refine HoldsT.ret ?_
          | refine HoldsT.skip ?_
          | refine HoldsT.exit ?_)
      | (refine okTr_intro ?_; kernel_rfl)
      | exact absurd rfl h
      | exact rowG2 rfl rfl rfl
      | exact rowG23 rfl rfl rfl
      | exact rowG1 rfl rfl
      | refine allProp_C ?_ ?_
      | refine And.intro ?_ ?_
      | omega
      | (show _ < List.length _; omega)
      | exact rowlen_intro rfl
      | exact lenEq_intro rfl
      | exact Nat.le_of_ble_eq_true rfl
      | (simp only [AV.rowlenD, AV.rowlen, AV.ncells, mulSz, toN, Option.map_some, Option.map_none, cutL, List.length_take, List.length_drop, List.length_append, List.length_cons, List.length_nil, List.length_set, Option.some.injEq, Int.reduceToNat] <;> omega))
    · refine WeakT.of ?_ ?_ (by kernel_rfl)
      · repeat' (first | exact TTle.junk _ _ | exact TTle.same _ | refine TTle.node ?_ ?_ | refine TTle.leaf ?_ | exact AVle.junk _ | exact AVle.rfl' rfl | exact AVle.nilS | exact AVle.nilB)
      · repeat' (first | exact OOle.none _ _ | exact OOle.same _ | refine OOle.node ?_ ?_ | exact OOle.leaf _ | exact OOle.gone _)
    · refine ⟨1, ⟨by decide, by decide⟩, ?_⟩
      refine WeakT.of ?_ ?_ (by kernel_rfl)
      · repeat' (first | exact TTle.junk _ _ | exact TTle.same _ | refine TTle.node ?_ ?_ | refine TTle.leaf ?_ | exact AVle.junk _ | exact AVle.rfl' rfl | exact AVle.nilS | exact AVle.nilB)
      · repeat' (first | exact OOle.none _ _ | exact OOle.same _ | refine OOle.node ?_ ?_ | exact OOle.leaf _ | exact OOle.gone _)
  · show HoldsT Try.prog _ (s3 ls r1 r2 f1 f2 g1 g2 q1 q2 m k i p1 p2 j m3 1) _
    repeat' (first
      | refine allProp_T ?_
      | exact trivial
      | (refine URun.id ?_; first
          | refine URun.nil ?_
          | refine URun.many tabs rfl rfl (by kernel_rfl) ?_ ?_
          | refine URun.same tabs rfl rfl rfl ?_
          | refine URun.same2 tabs rfl rfl rfl ?_
          | refine URun.yes tabs rfl rfl (by decide) rfl ?_
          | refine URun.no tabs rfl rfl (by decide) rfl ?_
          | refine URun.yes tabs rfl rfl (fun h => h rfl) rfl ?_
          | refine URun.no tabs rfl rfl (fun h => h rfl) rfl ?_
          | refine URun.yes tabs rfl rfl (fun h => h ⟨rfl, rfl⟩) rfl ?_
          | refine URun.no tabs rfl rfl (fun h => h ⟨rfl, rfl⟩) rfl ?_
          | refine URun.split tabs rfl rfl rfl rfl (fun h => ?_) (fun h => ?_))
      | (refine TRun.id ?_; first
          | refine TRun.nil ?_
          | refine TRun.many rfl rfl (by kernel_rfl) ?_ ?_
          | refine TRun.same rfl rfl rfl ?_
          | refine TRun.same2 rfl rfl rfl ?_
          | refine TRun.yes rfl rfl (by decide) rfl ?_
          | refine TRun.no rfl rfl (by decide) rfl ?_
          | refine TRun.yes rfl rfl (fun h => h rfl) rfl ?_
          | refine TRun.no rfl rfl (fun h => h rfl) rfl ?_
          | refine TRun.yes rfl rfl (fun h => h ⟨rfl, rfl⟩) rfl ?_
          | refine TRun.no rfl rfl (fun h => h ⟨rfl, rfl⟩) rfl ?_
          | refine TRun.split rfl rfl rfl rfl (fun h => ?_) (fun h => ?_))
      | (refine HoldsT.id ?_; first
          | refine HoldsT.weak ?_ (l4 ls r1 r2 f1 f2 g1 g2 q1 q2 m k i p1 p2 j m3 1 120 hB hl hr ⟨by decide, by decide⟩ ?_)
          | refine HoldsT.weak ?_ (HoldsT.exit hQ)
          | refine HoldsT.seq ?_
          | refine HoldsT.regionU ?_
          | refine HoldsT.drawn tabs ?_
          | refine HoldsT.yes rfl ?_
          | refine HoldsT.no rfl ?_
          | refine HoldsT.cond rfl (fun h => ?_) (fun h => ?_)
          | refine HoldsT.block ?_
          | refine HoldsT.ret ?_
          | refine HoldsT.skip ?_
          | refine HoldsT.exit ?_)
      | (refine okTr_intro ?_; kernel_rfl)
      | exact absurd rfl h
      | exact rowG2 rfl rfl rfl
      | exact rowG23 rfl rfl rfl
      | exact rowG1 rfl rfl
      | refine allProp_C ?_ ?_
      | refine And.intro ?_ ?_
      | omega
      | (show _ < List.length _; omega)
      | exact rowlen_intro rfl
      | exact lenEq_intro rfl
      | exact Nat.le_of_ble_eq_true rfl
      | (simp only [AV.rowlenD, AV.rowlen, AV.ncells, mulSz, toN, Option.map_some, Option.map_none, cutL, List.length_take, List.length_drop, List.length_append, List.length_cons, List.length_nil, List.length_set, Option.some.injEq, Int.reduceToNat] <;> omega))
    · refine WeakT.of ?_ ?_ (by kernel_rfl)
      · repeat' (first | exact TTle.junk _ _ | exact TTle.same _ | refine TTle.node ?_ ?_ | refine TTle.leaf ?_ | exact AVle.junk _ | exact AVle.rfl' rfl | exact AVle.nilS | exact AVle.nilB)
      · repeat' (first | exact OOle.none _ _ | exact OOle.same _ | refine OOle.node ?_ ?_ | exact OOle.leaf _ | exact OOle.gone _)
    · refine ⟨2, ⟨by decide, by decide⟩, ?_⟩
      refine WeakT.of ?_ ?_ (by kernel_rfl)
      · repeat' (first | exact TTle.junk _ _ | exact TTle.same _ | refine TTle.node ?_ ?_ | refine TTle.leaf ?_ | exact AVle.junk _ | exact AVle.rfl' rfl | exact AVle.nilS | exact AVle.nilB)
      · repeat' (first | exact OOle.none _ _ | exact OOle.same _ | refine OOle.node ?_ ?_ | exact OOle.leaf _ | exact OOle.gone _)
  · show HoldsT Try.prog _ (s3 ls r1 r2 f1 f2 g1 g2 q1 q2 m k i p1 p2 j m3 2) _
    repeat' (first
      | refine allProp_T ?_
      | exact trivial
      | (refine URun.id ?_; first
          | refine URun.nil ?_
          | refine URun.many tabs rfl rfl (by kernel_rfl) ?_ ?_
          | refine URun.same tabs rfl rfl rfl ?_
          | refine URun.same2 tabs rfl rfl rfl ?_
          | refine URun.yes tabs rfl rfl (by decide) rfl ?_
          | refine URun.no tabs rfl rfl (by decide) rfl ?_
          | refine URun.yes tabs rfl rfl (fun h => h rfl) rfl ?_
          | refine URun.no tabs rfl rfl (fun h => h rfl) rfl ?_
          | refine URun.yes tabs rfl rfl (fun h => h ⟨rfl, rfl⟩) rfl ?_
          | refine URun.no tabs rfl rfl (fun h => h ⟨rfl, rfl⟩) rfl ?_
          | refine URun.split tabs rfl rfl rfl rfl (fun h => ?_) (fun h => ?_))
      | (refine TRun.id ?_; first
          | refine TRun.nil ?_
          | refine TRun.many rfl rfl (by kernel_rfl) ?_ ?_
          | refine TRun.same rfl rfl rfl ?_
          | refine TRun.same2 rfl rfl rfl ?_
          | refine TRun.yes rfl rfl (by decide) rfl ?_
          | refine TRun.no rfl rfl (by decide) rfl ?_
          | refine TRun.yes rfl rfl (fun h => h rfl) rfl ?_
          | refine TRun.no rfl rfl (fun h => h rfl) rfl ?_
          | refine TRun.yes rfl rfl (fun h => h ⟨rfl, rfl⟩) rfl ?_
          | refine TRun.no rfl rfl (fun h => h ⟨rfl, rfl⟩) rfl ?_
          | refine TRun.split rfl rfl rfl rfl (fun h => ?_) (fun h => ?_))
      | (refine HoldsT.id ?_; first
          | refine HoldsT.weak ?_ (l4 ls r1 r2 f1 f2 g1 g2 q1 q2 m k i p1 p2 j m3 2 8 hB hl hr ⟨by decide, by decide⟩ ?_)
          | refine HoldsT.weak ?_ (HoldsT.exit hQ)
          | refine HoldsT.seq ?_
          | refine HoldsT.regionU ?_
          | refine HoldsT.drawn tabs ?_
          | refine HoldsT.yes rfl ?_
          | refine HoldsT.no rfl ?_
          | refine HoldsT.cond rfl (fun h => ?_) (fun h => ?_)
          | refine HoldsT.block ?_
          | refine HoldsT.ret ?_
          | refine HoldsT.skip ?_
          | refine HoldsT.exit ?_)
      | (refine okTr_intro ?_; kernel_rfl)
      | exact absurd rfl h
      | exact rowG2 rfl rfl rfl
      | exact rowG23 rfl rfl rfl
      | exact rowG1 rfl rfl
      | refine allProp_C ?_ ?_
      | refine And.intro ?_ ?_
      | omega
      | (show _ < List.length _; omega)
      | exact rowlen_intro rfl
      | exact lenEq_intro rfl
      | exact Nat.le_of_ble_eq_true rfl
      | (simp only [AV.rowlenD, AV.rowlen, AV.ncells, mulSz, toN, Option.map_some, Option.map_none, cutL, List.length_take, List.length_drop, List.length_append, List.length_cons, List.length_nil, List.length_set, Option.some.injEq, Int.reduceToNat] <;> omega))
    · refine WeakT.of ?_ ?_ (by kernel_rfl)
      · repeat' (first | exact TTle.junk _ _ | exact TTle.same _ | refine TTle.node ?_ ?_ | refine TTle.leaf ?_ | exact AVle.junk _ | exact AVle.rfl' rfl | exact AVle.nilS | exact AVle.nilB)
      · repeat' (first | exact OOle.none _ _ | exact OOle.same _ | refine OOle.node ?_ ?_ | exact OOle.leaf _ | exact OOle.gone _)
    · refine ⟨3, ⟨by decide, by decide⟩, ?_⟩
      refine WeakT.of ?_ ?_ (by kernel_rfl)
      · repeat' (first | exact TTle.junk _ _ | exact TTle.same _ | refine TTle.node ?_ ?_ | refine TTle.leaf ?_ | exact AVle.junk _ | exact AVle.rfl' rfl | exact AVle.nilS | exact AVle.nilB)
      · repeat' (first | exact OOle.none _ _ | exact OOle.same _ | refine OOle.node ?_ ?_ | exact OOle.leaf _ | exact OOle.gone _)
  · show HoldsT Try.prog _ (s3 ls r1 r2 f1 f2 g1 g2 q1 q2 m k i p1 p2 j m3 3) _
    repeat' (first
      | refine allProp_T ?_
      | exact trivial
      | (refine URun.id ?_; first
          | refine URun.nil ?_
          | refine URun.many tabs rfl rfl (by kernel_rfl) ?_ ?_
          | refine URun.same tabs rfl rfl rfl ?_
          | refine URun.same2 tabs rfl rfl rfl ?_
          | refine URun.yes tabs rfl rfl (by decide) rfl ?_
          | refine URun.no tabs rfl rfl (by decide) rfl ?_
          | refine URun.yes tabs rfl rfl (fun h => h rfl) rfl ?_
          | refine URun.no tabs rfl rfl (fun h => h rfl) rfl ?_
          | refine URun.yes tabs rfl rfl (fun h => h ⟨rfl, rfl⟩) rfl ?_
          | refine URun.no tabs rfl rfl (fun h => h ⟨rfl, rfl⟩) rfl ?_
          | refine URun.split tabs rfl rfl rfl rfl (fun h => ?_) (fun h => ?_))
      | (refine TRun.id ?_; first
          | refine TRun.nil ?_
          | refine TRun.many rfl rfl (by kernel_rfl) ?_ ?_
          | refine TRun.same rfl rfl rfl ?_
          | refine TRun.same2 rfl rfl rfl ?_
          | refine TRun.yes rfl rfl (by decide) rfl ?_
          | refine TRun.no rfl rfl (by decide) rfl ?_
          | refine TRun.yes rfl rfl (fun h => h rfl) rfl ?_
          | refine TRun.no rfl rfl (fun h => h rfl) rfl ?_
          | refine TRun.yes rfl rfl (fun h => h ⟨rfl, rfl⟩) rfl ?_
          | refine TRun.no rfl rfl (fun h => h ⟨rfl, rfl⟩) rfl ?_
          | refine TRun.split rfl rfl rfl rfl (fun h => ?_) (fun h => ?_))
      | (refine HoldsT.id ?_; first
          | refine HoldsT.weak ?_ (l4 ls r1 r2 f1 f2 g1 g2 q1 q2 m k i p1 p2 j m3 3 13 hB hl hr ⟨by decide, by decide⟩ ?_)
          | refine HoldsT.weak ?_ (HoldsT.exit hQ)
          | refine HoldsT.seq ?_
          | refine HoldsT.regionU ?_
          | refine HoldsT.drawn tabs ?_
          | refine HoldsT.yes rfl ?_
          | refine HoldsT.no rfl ?_
          | refine HoldsT.cond rfl (fun h => ?_) (fun h => ?_)
          | refine HoldsT.block ?_
          | refine HoldsT.ret ?_
          | refine HoldsT.skip ?_
          | refine HoldsT.exit ?_)
      | (refine okTr_intro ?_; kernel_rfl)
      | exact absurd rfl h
      | exact rowG2 rfl rfl rfl
      | exact rowG23 rfl rfl rfl
      | exact rowG1 rfl rfl
      | refine allProp_C ?_ ?_
      | refine And.intro ?_ ?_
      | omega
      | (show _ < List.length _; omega)
      | exact rowlen_intro rfl
      | exact lenEq_intro rfl
      | exact Nat.le_of_ble_eq_true rfl
      | (simp only [AV.rowlenD, AV.rowlen, AV.ncells, mulSz, toN, Option.map_some, Option.map_none, cutL, List.length_take, List.length_drop, List.length_append, List.length_cons, List.length_nil, List.length_set, Option.some.injEq, Int.reduceToNat] <;> omega))
    · refine WeakT.of ?_ ?_ (by kernel_rfl)
      · repeat' (first | exact TTle.junk _ _ | exact TTle.same _ | refine TTle.node ?_ ?_ | refine TTle.leaf ?_ | exact AVle.junk _ | exact AVle.rfl' rfl | exact AVle.nilS | exact AVle.nilB)
      · repeat' (first | exact OOle.none _ _ | exact OOle.same _ | refine OOle.node ?_ ?_ | exact OOle.leaf _ | exact OOle.gone _)
    · refine ⟨4, ⟨by decide, by decide⟩, ?_⟩
      refine WeakT.of ?_ ?_ (by kernel_rfl)
      · repeat' (first | exact TTle.junk _ _ | exact TTle.same _ | refine TTle.node ?_ ?_ | refine TTle.leaf ?_ | exact AVle.junk _ | exact AVle.rfl' rfl | exact AVle.nilS | exact AVle.nilB)
      · repeat' (first | exact OOle.none _ _ | exact OOle.same _ | refine OOle.node ?_ ?_ | exact OOle.leaf _ | exact OOle.gone _)
  · show HoldsT Try.prog _ (s3 ls r1 r2 f1 f2 g1 g2 q1 q2 m k i p1 p2 j m3 4) _
    repeat' (first
      | refine allProp_T ?_
      | exact trivial
      | (refine URun.id ?_; first
          | refine URun.nil ?_
          | refine URun.many tabs rfl rfl (by kernel_rfl) ?_ ?_
          | refine URun.same tabs rfl rfl rfl ?_
          | refine URun.same2 tabs rfl rfl rfl ?_
          | refine URun.yes tabs rfl rfl (by decide) rfl ?_
          | refine URun.no tabs rfl rfl (by decide) rfl ?_
          | refine URun.yes tabs rfl rfl (fun h => h rfl) rfl ?_
          | refine URun.no tabs rfl rfl (fun h => h rfl) rfl ?_
          | refine URun.yes tabs rfl rfl (fun h => h ⟨rfl, rfl⟩) rfl ?_
          | refine URun.no tabs rfl rfl (fun h => h ⟨rfl, rfl⟩) rfl ?_
          | refine URun.split tabs rfl rfl rfl rfl (fun h => ?_) (fun h => ?_))
      | (refine TRun.id ?_; first
          | refine TRun.nil ?_
          | refine TRun.many rfl rfl (by kernel_rfl) ?_ ?_
          | refine TRun.same rfl rfl rfl ?_
          | refine TRun.same2 rfl rfl rfl ?_
          | refine TRun.yes rfl rfl (by decide) rfl ?_
          | refine TRun.no rfl rfl (by decide) rfl ?_
          | refine TRun.yes rfl rfl (fun h => h rfl) rfl ?_
          | refine TRun.no rfl rfl (fun h => h rfl) rfl ?_
          | refine TRun.yes rfl rfl (fun h => h ⟨rfl, rfl⟩) rfl ?_
          | refine TRun.no rfl rfl (fun h => h ⟨rfl, rfl⟩) rfl ?_
          | refine TRun.split rfl rfl rfl rfl (fun h => ?_) (fun h => ?_))
      | (refine HoldsT.id ?_; first
          | refine HoldsT.weak ?_ (l4 ls r1 r2 f1 f2 g1 g2 q1 q2 m k i p1 p2 j m3 4 127 hB hl hr ⟨by decide, by decide⟩ ?_)
          | refine HoldsT.weak ?_ (HoldsT.exit hQ)
          | refine HoldsT.seq ?_
          | refine HoldsT.regionU ?_
          | refine HoldsT.drawn tabs ?_
          | refine HoldsT.yes rfl ?_
          | refine HoldsT.no rfl ?_
          | refine HoldsT.cond rfl (fun h => ?_) (fun h => ?_)
          | refine HoldsT.block ?_
          | refine HoldsT.ret ?_
          | refine HoldsT.skip ?_
          | refine HoldsT.exit ?_)
      | (refine okTr_intro ?_; kernel_rfl)
      | exact absurd rfl h
      | exact rowG2 rfl rfl rfl
      | exact rowG23 rfl rfl rfl
      | exact rowG1 rfl rfl
      | refine allProp_C ?_ ?_
      | refine And.intro ?_ ?_
      | omega
      | (show _ < List.length _; omega)
      | exact rowlen_intro rfl
      | exact lenEq_intro rfl
      | exact Nat.le_of_ble_eq_true rfl
      | (simp only [AV.rowlenD, AV.rowlen, AV.ncells, mulSz, toN, Option.map_some, Option.map_none, cutL, List.length_take, List.length_drop, List.length_append, List.length_cons, List.length_nil, List.length_set, Option.some.injEq, Int.reduceToNat] <;> omega))
    · refine WeakT.of ?_ ?_ (by kernel_rfl)
      · repeat' (first | exact TTle.junk _ _ | exact TTle.same _ | refine TTle.node ?_ ?_ | refine TTle.leaf ?_ | exact AVle.junk _ | exact AVle.rfl' rfl | exact AVle.nilS | exact AVle.nilB)
      · repeat' (first | exact OOle.none _ _ | exact OOle.same _ | refine OOle.node ?_ ?_ | exact OOle.leaf _ | exact OOle.gone _)
    · refine ⟨5, ⟨by decide, by decide⟩, ?_⟩
      refine WeakT.of ?_ ?_ (by kernel_rfl)
      · repeat' (first | exact TTle.junk _ _ | exact TTle.same _ | refine TTle.node ?_ ?_ | refine TTle.leaf ?_ | exact AVle.junk _ | exact AVle.rfl' rfl | exact AVle.nilS | exact AVle.nilB)
      · repeat' (first | exact OOle.none _ _ | exact OOle.same _ | refine OOle.node ?_ ?_ | exact OOle.leaf _ | exact OOle.gone _)
  · show HoldsT Try.prog _ (s3 ls r1 r2 f1 f2 g1 g2 q1 q2 m k i p1 p2 j m3 5) _
    repeat' (first
      | refine allProp_T ?_
      | exact trivial
      | (refine URun.id ?_; first
          | refine URun.nil ?_
          | refine URun.many tabs rfl rfl (by kernel_rfl) ?_ ?_
          | refine URun.same tabs rfl rfl rfl ?_
          | refine URun.same2 tabs rfl rfl rfl ?_
          | refine URun.yes tabs rfl rfl (by decide) rfl ?_
          | refine URun.no tabs rfl rfl (by decide) rfl ?_
          | refine URun.yes tabs rfl rfl (fun h => h rfl) rfl ?_
          | refine URun.no tabs rfl rfl (fun h => h rfl) rfl ?_
          | refine URun.yes tabs rfl rfl (fun h => h ⟨rfl, rfl⟩) rfl ?_
          | refine URun.no tabs rfl rfl (fun h => h ⟨rfl, rfl⟩) rfl ?_
          | refine URun.split tabs rfl rfl rfl rfl (fun h => ?_) (fun h => ?_))
      | (refine TRun.id ?_; first
          | refine TRun.nil ?_
          | refine TRun.many rfl rfl (by kernel_rfl) ?_ ?_
          | refine TRun.same rfl rfl rfl ?_
          | refine TRun.same2 rfl rfl rfl ?_
          | refine TRun.yes rfl rfl (by decide) rfl ?_
          | refine TRun.no rfl rfl (by decide) rfl ?_
          | refine TRun.yes rfl rfl (fun h => h rfl) rfl ?_
          | refine TRun.no rfl rfl (fun h => h rfl) rfl ?_
          | refine TRun.yes rfl rfl (fun h => h ⟨rfl, rfl⟩) rfl ?_
          | refine TRun.no rfl rfl (fun h => h ⟨rfl, rfl⟩) rfl ?_
          | refine TRun.split rfl rfl rfl rfl (fun h => ?_) (fun h => ?_))
      | (refine HoldsT.id ?_; first
          | refine HoldsT.weak ?_ (HoldsT.exit hQ)
          | refine HoldsT.seq ?_
          | refine HoldsT.regionU ?_
          | refine HoldsT.drawn tabs ?_
          | refine HoldsT.yes rfl ?_
          | refine HoldsT.no rfl ?_
          | refine HoldsT.cond rfl (fun h => ?_) (fun h => ?_)
          | refine HoldsT.block ?_
          | refine HoldsT.ret ?_
          | refine HoldsT.skip ?_
          | refine HoldsT.exit ?_)
      | (refine okTr_intro ?_; kernel_rfl)
      | exact absurd rfl h
      | exact rowG2 rfl rfl rfl
      | exact rowG23 rfl rfl rfl
      | exact rowG1 rfl rfl
      | refine allProp_C ?_ ?_
      | refine And.intro ?_ ?_
      | omega
      | (show _ < List.length _; omega)
      | exact rowlen_intro rfl
      | exact lenEq_intro rfl
      | exact Nat.le_of_ble_eq_true rfl
      | (simp only [AV.rowlenD, AV.rowlen, AV.ncells, mulSz, toN, Option.map_some, Option.map_none, cutL, List.length_take, List.length_drop, List.length_append, List.length_cons, List.length_nil, List.length_set, Option.some.injEq, Int.reduceToNat] <;> omega))
    · refine WeakT.of ?_ ?_ (by kernel_rfl)
      · repeat' (first | exact TTle.junk _ _ | exact TTle.same _ | refine TTle.node ?_ ?_ | refine TTle.leaf ?_ | exact AVle.junk _ | exact AVle.rfl' rfl | exact AVle.nilS | exact AVle.nilB)
      · repeat' (first | exact OOle.none _ _ | exact OOle.same _ | refine OOle.node ?_ ?_ | exact OOle.leaf _ | exact OOle.gone _)
set_option maxRecDepth 10000 in
set_option maxHeartbeats 8000000 in
theorem l2 (i p1 p2 : Int) (hB : ∀ n : Nat, (ls.getD n []).length ≤ 140737488355328) (hl : ls.length ≤ 40) (hr : ∀ n : Nat, (ls.getD n []).length ≤ 1200) (hk : inK .u8 k) {Q : Exit → TS → Prop} (hQ : Q .normal (s1 ls r1 r2 f1 f2 g1 g2 q1 q2 m k i)) :
    HoldsT Try.prog (blk7 2) (s2 ls r1 r2 f1 f2 g1 g2 q1 q2 m k i p1 p2 0) Q := by
  refine HoldsT.block ?_
  refine HoldsT.loop (fun j : Int => s2 ls r1 r2 f1 f2 g1 g2 q1 q2 m k i p1 p2 j) (fun j => (3 - j).toNat) (fun j => j = 0 ∨ j = 1 ∨ j = 2 ∨ j = 3) 0 (.refl _) (.inl rfl) (fun _ => by kernel_rfl) ?_
  intro j hj
  rcases hj with rfl | rfl | rfl | rfl
  · show HoldsT Try.prog _ (s2 ls r1 r2 f1 f2 g1 g2 q1 q2 m k i p1 p2 0) _
    repeat' (first
      | refine allProp_T ?_
      | exact trivial
      | (refine URun.id ?_; first
          | refine URun.nil ?_
          | refine URun.many tabs rfl rfl (by kernel_rfl) ?_ ?_
          | refine URun.same tabs rfl rfl rfl ?_
          | refine URun.same2 tabs rfl rfl rfl ?_
          | refine URun.yes tabs rfl rfl (by decide) rfl ?_
          | refine URun.no tabs rfl rfl (by decide) rfl ?_
          | refine URun.yes tabs rfl rfl (fun h => h rfl) rfl ?_
          | refine URun.no tabs rfl rfl (fun h => h rfl) rfl ?_
          | refine URun.yes tabs rfl rfl (fun h => h ⟨rfl, rfl⟩) rfl ?_
          | refine URun.no tabs rfl rfl (fun h => h ⟨rfl, rfl⟩) rfl ?_
          | refine URun.split tabs rfl rfl rfl rfl (fun h => ?_) (fun h => ?_))
      | (refine TRun.id ?_; first
          | refine TRun.nil ?_
          | refine TRun.many rfl rfl (by kernel_rfl) ?_ ?_
          | refine TRun.same rfl rfl rfl ?_
          | refine TRun.same2 rfl rfl rfl ?_
          | refine TRun.yes rfl rfl (by decide) rfl ?_
          | refine TRun.no rfl rfl (by decide) rfl ?_
          | refine TRun.yes rfl rfl (fun h => h rfl) rfl ?_
          | refine TRun.no rfl rfl (fun h => h rfl) rfl ?_
          | refine TRun.yes rfl rfl (fun h => h ⟨rfl, rfl⟩) rfl ?_
          | refine TRun.no rfl rfl (fun h => h ⟨rfl, rfl⟩) rfl ?_
          | refine TRun.split rfl rfl rfl rfl (fun h => ?_) (fun h => ?_))
      | (refine HoldsT.id ?_; first
          | refine HoldsT.weak ?_ (l3 ls r1 r2 f1 f2 g1 g2 q1 q2 m k i p1 p2 0 m hB hl hr hk ?_)
          | refine HoldsT.weak ?_ (HoldsT.exit hQ)
          | refine HoldsT.seq ?_
          | refine HoldsT.regionU ?_
          | refine HoldsT.drawn tabs ?_
          | refine HoldsT.yes rfl ?_
          | refine HoldsT.no rfl ?_
          | refine HoldsT.cond rfl (fun h => ?_) (fun h => ?_)
          | refine HoldsT.block ?_
          | refine HoldsT.ret ?_
          | refine HoldsT.skip ?_
          | refine HoldsT.exit ?_)
      | (refine okTr_intro ?_; kernel_rfl)
      | exact absurd rfl h
      | exact rowG2 rfl rfl rfl
      | exact rowG23 rfl rfl rfl
      | exact rowG1 rfl rfl
      | refine allProp_C ?_ ?_
      | refine And.intro ?_ ?_
      | omega
      | (show _ < List.length _; omega)
      | exact rowlen_intro rfl
      | exact lenEq_intro rfl
      | exact Nat.le_of_ble_eq_true rfl
      | (simp only [AV.rowlenD, AV.rowlen, AV.ncells, mulSz, toN, Option.map_some, Option.map_none, cutL, List.length_take, List.length_drop, List.length_append, List.length_cons, List.length_nil, List.length_set, Option.some.injEq, Int.reduceToNat] <;> omega))
    · refine WeakT.of ?_ ?_ (by kernel_rfl)
      · repeat' (first | exact TTle.junk _ _ | exact TTle.same _ | refine TTle.node ?_ ?_ | refine TTle.leaf ?_ | exact AVle.junk _ | exact AVle.rfl' rfl | exact AVle.nilS | exact AVle.nilB)
      · repeat' (first | exact OOle.none _ _ | exact OOle.same _ | refine OOle.node ?_ ?_ | exact OOle.leaf _ | exact OOle.gone _)
    · refine ⟨1, ⟨by decide, by decide⟩, ?_⟩
      refine WeakT.of ?_ ?_ (by kernel_rfl)
      · repeat' (first | exact TTle.junk _ _ | exact TTle.same _ | refine TTle.node ?_ ?_ | refine TTle.leaf ?_ | exact AVle.junk _ | exact AVle.rfl' rfl | exact AVle.nilS | exact AVle.nilB)
      · repeat' (first | exact OOle.none _ _ | exact OOle.same _ | refine OOle.node ?_ ?_ | exact OOle.leaf _ | exact OOle.gone _)
  · show HoldsT Try.prog _ (s2 ls r1 r2 f1 f2 g1 g2 q1 q2 m k i p1 p2 1) _
    repeat' (first
      | refine allProp_T ?_
      | exact trivial
      | (refine URun.id ?_; first
          | refine URun.nil ?_
          | refine URun.many tabs rfl rfl (by kernel_rfl) ?_ ?_
          | refine URun.same tabs rfl rfl rfl ?_
          | refine URun.same2 tabs rfl rfl rfl ?_
          | refine URun.yes tabs rfl rfl (by decide) rfl ?_
          | refine URun.no tabs rfl rfl (by decide) rfl ?_
          | refine URun.yes tabs rfl rfl (fun h => h rfl) rfl ?_
          | refine URun.no tabs rfl rfl (fun h => h rfl) rfl ?_
          | refine URun.yes tabs rfl rfl (fun h => h ⟨rfl, rfl⟩) rfl ?_
          | refine URun.no tabs rfl rfl (fun h => h ⟨rfl, rfl⟩) rfl ?_
          | refine URun.split tabs rfl rfl rfl rfl (fun h => ?_) (fun h => ?_))
      | (refine TRun.id ?_; first
          | refine TRun.nil ?_
          | refine TRun.many rfl rfl (by kernel_rfl) ?_ ?_
          | refine TRun.same rfl rfl rfl ?_
          | refine TRun.same2 rfl rfl rfl ?_
          | refine TRun.yes rfl rfl (by decide) rfl ?_
          | refine TRun.no rfl rfl (by decide) rfl ?_
          | refine TRun.yes rfl rfl (fun h => h rfl) rfl ?_
          | refine TRun.no rfl rfl (fun h => h rfl) rfl ?_
          | refine TRun.yes rfl rfl (fun h => h ⟨rfl, rfl⟩) rfl ?_
          | refine TRun.no rfl rfl (fun h => h ⟨rfl, rfl⟩) rfl ?_
          | refine TRun.split rfl rfl rfl rfl (fun h => ?_) (fun h => ?_))
      | (refine HoldsT.id ?_; first
          | refine HoldsT.weak ?_ (l3 ls r1 r2 f1 f2 g1 g2 q1 q2 m k i p1 p2 1 1 hB hl hr hk ?_)
          | refine HoldsT.weak ?_ (HoldsT.exit hQ)
          | refine HoldsT.seq ?_
          | refine HoldsT.regionU ?_
          | refine HoldsT.drawn tabs ?_
          | refine HoldsT.yes rfl ?_
          | refine HoldsT.no rfl ?_
          | refine HoldsT.cond rfl (fun h => ?_) (fun h => ?_)
          | refine HoldsT.block ?_
          | refine HoldsT.ret ?_
          | refine HoldsT.skip ?_
          | refine HoldsT.exit ?_)
      | (refine okTr_intro ?_; kernel_rfl)
      | exact absurd rfl h
      | exact rowG2 rfl rfl rfl
      | exact rowG23 rfl rfl rfl
      | exact rowG1 rfl rfl
      | refine allProp_C ?_ ?_
      | refine And.intro ?_ ?_
      | omega
      | (show _ < List.length _; omega)
      | exact rowlen_intro rfl
      | exact lenEq_intro rfl
      | exact Nat.le_of_ble_eq_true rfl
      | (simp only [AV.rowlenD, AV.rowlen, AV.ncells, mulSz, toN, Option.map_some, Option.map_none, cutL, List.length_take, List.length_drop, List.length_append, List.length_cons, List.length_nil, List.length_set, Option.some.injEq, Int.reduceToNat] <;> omega))
    · refine WeakT.of ?_ ?_ (by kernel_rfl)
      · repeat' (first | exact TTle.junk _ _ | exact TTle.same _ | refine TTle.node ?_ ?_ | refine TTle.leaf ?_ | exact AVle.junk _ | exact AVle.rfl' rfl | exact AVle.nilS | exact AVle.nilB)
      · repeat' (first | exact OOle.none _ _ | exact OOle.same _ | refine OOle.node ?_ ?_ | exact OOle.leaf _ | exact OOle.gone _)
    · refine ⟨2, ⟨by decide, by decide⟩, ?_⟩
      refine WeakT.of ?_ ?_ (by kernel_rfl)
      · repeat' (first | exact TTle.junk _ _ | exact TTle.same _ | refine TTle.node ?_ ?_ | refine TTle.leaf ?_ | exact AVle.junk _ | exact AVle.rfl' rfl | exact AVle.nilS | exact AVle.nilB)
      · repeat' (first | exact OOle.none _ _ | exact OOle.same _ | refine OOle.node ?_ ?_ | exact OOle.leaf _ | exact OOle.gone _)
  · show HoldsT Try.prog _ (s2 ls r1 r2 f1 f2 g1 g2 q1 q2 m k i p1 p2 2) _
    repeat' (first
      | refine allProp_T ?_
      | exact trivial
      | (refine URun.id ?_; first
          | refine URun.nil ?_
          | refine URun.many tabs rfl rfl (by kernel_rfl) ?_ ?_
          | refine URun.same tabs rfl rfl rfl ?_
          | refine URun.same2 tabs rfl rfl rfl ?_
          | refine URun.yes tabs rfl rfl (by decide) rfl ?_
          | refine URun.no tabs rfl rfl (by decide) rfl ?_
          | refine URun.yes tabs rfl rfl (fun h => h rfl) rfl ?_
          | refine URun.no tabs rfl rfl (fun h => h rfl) rfl ?_
          | refine URun.yes tabs rfl rfl (fun h => h ⟨rfl, rfl⟩) rfl ?_
          | refine URun.no tabs rfl rfl (fun h => h ⟨rfl, rfl⟩) rfl ?_
          | refine URun.split tabs rfl rfl rfl rfl (fun h => ?_) (fun h => ?_))
      | (refine TRun.id ?_; first
          | refine TRun.nil ?_
          | refine TRun.many rfl rfl (by kernel_rfl) ?_ ?_
          | refine TRun.same rfl rfl rfl ?_
          | refine TRun.same2 rfl rfl rfl ?_
          | refine TRun.yes rfl rfl (by decide) rfl ?_
          | refine TRun.no rfl rfl (by decide) rfl ?_
          | refine TRun.yes rfl rfl (fun h => h rfl) rfl ?_
          | refine TRun.no rfl rfl (fun h => h rfl) rfl ?_
          | refine TRun.yes rfl rfl (fun h => h ⟨rfl, rfl⟩) rfl ?_
          | refine TRun.no rfl rfl (fun h => h ⟨rfl, rfl⟩) rfl ?_
          | refine TRun.split rfl rfl rfl rfl (fun h => ?_) (fun h => ?_))
      | (refine HoldsT.id ?_; first
          | refine HoldsT.weak ?_ (l3 ls r1 r2 f1 f2 g1 g2 q1 q2 m k i p1 p2 2 2 hB hl hr hk ?_)
          | refine HoldsT.weak ?_ (HoldsT.exit hQ)
          | refine HoldsT.seq ?_
          | refine HoldsT.regionU ?_
          | refine HoldsT.drawn tabs ?_
          | refine HoldsT.yes rfl ?_
          | refine HoldsT.no rfl ?_
          | refine HoldsT.cond rfl (fun h => ?_) (fun h => ?_)
          | refine HoldsT.block ?_
          | refine HoldsT.ret ?_
          | refine HoldsT.skip ?_
          | refine HoldsT.exit ?_)
      | (refine okTr_intro ?_; kernel_rfl)
      | exact absurd rfl h
      | exact rowG2 rfl rfl rfl
      | exact rowG23 rfl rfl rfl
      | exact rowG1 rfl rfl
      | refine allProp_C ?_ ?_
      | refine And.intro ?_ ?_
      | omega
      | (show _ < List.length _; omega)
      | exact rowlen_intro rfl
      | exact lenEq_intro rfl
      | exact Nat.le_of_ble_eq_true rfl
      | (simp only [AV.rowlenD, AV.rowlen, AV.ncells, mulSz, toN, Option.map_some, Option.map_none, cutL, List.length_take, List.length_drop, List.length_append, List.length_cons, List.length_nil, List.length_set, Option.some.injEq, Int.reduceToNat] <;> omega))
    · refine WeakT.of ?_ ?_ (by kernel_rfl)
      · repeat' (first | exact TTle.junk _ _ | exact TTle.same _ | refine TTle.node ?_ ?_ | refine TTle.leaf ?_ | exact AVle.junk _ | exact AVle.rfl' rfl | exact AVle.nilS | exact AVle.nilB)
      · repeat' (first | exact OOle.none _ _ | exact OOle.same _ | refine OOle.node ?_ ?_ | exact OOle.leaf _ | exact OOle.gone _)
    · refine ⟨3, ⟨by decide, by decide⟩, ?_⟩
      refine WeakT.of ?_ ?_ (by kernel_rfl)
      · repeat' (first | exact TTle.junk _ _ | exact TTle.same _ | refine TTle.node ?_ ?_ | refine TTle.leaf ?_ | exact AVle.junk _ | exact AVle.rfl' rfl | exact AVle.nilS | exact AVle.nilB)
      · repeat' (first | exact OOle.none _ _ | exact OOle.same _ | refine OOle.node ?_ ?_ | exact OOle.leaf _ | exact OOle.gone _)
  · show HoldsT Try.prog _ (s2 ls r1 r2 f1 f2 g1 g2 q1 q2 m k i p1 p2 3) _
    repeat' (first
      | refine allProp_T ?_
      | exact trivial
      | (refine URun.id ?_; first
          | refine URun.nil ?_
          | refine URun.many tabs rfl rfl (by kernel_rfl) ?_ ?_
          | refine URun.same tabs rfl rfl rfl ?_
          | refine URun.same2 tabs rfl rfl rfl ?_
          | refine URun.yes tabs rfl rfl (by decide) rfl ?_
          | refine URun.no tabs rfl rfl (by decide) rfl ?_
          | refine URun.yes tabs rfl rfl (fun h => h rfl) rfl ?_
          | refine URun.no tabs rfl rfl (fun h => h rfl) rfl ?_
          | refine URun.yes tabs rfl rfl (fun h => h ⟨rfl, rfl⟩) rfl ?_
          | refine URun.no tabs rfl rfl (fun h => h ⟨rfl, rfl⟩) rfl ?_
          | refine URun.split tabs rfl rfl rfl rfl (fun h => ?_) (fun h => ?_))
      | (refine TRun.id ?_; first
          | refine TRun.nil ?_
          | refine TRun.many rfl rfl (by kernel_rfl) ?_ ?_
          | refine TRun.same rfl rfl rfl ?_
          | refine TRun.same2 rfl rfl rfl ?_
          | refine TRun.yes rfl rfl (by decide) rfl ?_
          | refine TRun.no rfl rfl (by decide) rfl ?_
          | refine TRun.yes rfl rfl (fun h => h rfl) rfl ?_
          | refine TRun.no rfl rfl (fun h => h rfl) rfl ?_
          | refine TRun.yes rfl rfl (fun h => h ⟨rfl, rfl⟩) rfl ?_
          | refine TRun.no rfl rfl (fun h => h ⟨rfl, rfl⟩) rfl ?_
          | refine TRun.split rfl rfl rfl rfl (fun h => ?_) (fun h => ?_))
      | (refine HoldsT.id ?_; first
          | refine HoldsT.weak ?_ (HoldsT.exit hQ)
          | refine HoldsT.seq ?_
          | refine HoldsT.regionU ?_
          | refine HoldsT.drawn tabs ?_
          | refine HoldsT.yes rfl ?_
          | refine HoldsT.no rfl ?_
          | refine HoldsT.cond rfl (fun h => ?_) (fun h => ?_)
          | refine HoldsT.block ?_
          | refine HoldsT.ret ?_
          | refine HoldsT.skip ?_
          | refine HoldsT.exit ?_)
      | (refine okTr_intro ?_; kernel_rfl)
      | exact absurd rfl h
      | exact rowG2 rfl rfl rfl
      | exact rowG23 rfl rfl rfl
      | exact rowG1 rfl rfl
      | refine allProp_C ?_ ?_
      | refine And.intro ?_ ?_
      | omega
      | (show _ < List.length _; omega)
      | exact rowlen_intro rfl
      | exact lenEq_intro rfl
      | exact Nat.le_of_ble_eq_true rfl
      | (simp only [AV.rowlenD, AV.rowlen, AV.ncells, mulSz, toN, Option.map_some, Option.map_none, cutL, List.length_take, List.length_drop, List.length_append, List.length_cons, List.length_nil, List.length_set, Option.some.injEq, Int.reduceToNat] <;> omega))
    · refine WeakT.of ?_ ?_ (by kernel_rfl)
      · repeat' (first | exact TTle.junk _ _ | exact TTle.same _ | refine TTle.node ?_ ?_ | refine TTle.leaf ?_ | exact AVle.junk _ | exact AVle.rfl' rfl | exact AVle.nilS | exact AVle.nilB)
      · repeat' (first | exact OOle.none _ _ | exact OOle.same _ | refine OOle.node ?_ ?_ | exact OOle.leaf _ | exact OOle.gone _)
set_option maxRecDepth 10000 in
set_option maxHeartbeats 8000000 in
theorem l1 (hB : ∀ n : Nat, (ls.getD n []).length ≤ 140737488355328) (hl : ls.length ≤ 40) (hr : ∀ n : Nat, (ls.getD n []).length ≤ 1200) (hk : inK .u8 k) {Q : Exit → TS → Prop} (hQ : Q .normal (s1 ls r1 r2 f1 f2 g1 g2 q1 q2 m k 2)) :
    HoldsT Try.prog (blk7 0) (s1 ls r1 r2 f1 f2 g1 g2 q1 q2 m k 0) Q := by
  refine HoldsT.block ?_
  refine HoldsT.loop (fun i : Int => s1 ls r1 r2 f1 f2 g1 g2 q1 q2 m k i) (fun i => (2 - i).toNat) (fun i => i = 0 ∨ i = 1 ∨ i = 2) 0 (.refl _) (.inl rfl) (fun _ => by kernel_rfl) ?_
  intro i hi
  rcases hi with rfl | rfl | rfl
  · show HoldsT Try.prog _ (s1 ls r1 r2 f1 f2 g1 g2 q1 q2 m k 0) _
    repeat' (first
      | refine allProp_T ?_
      | exact trivial
      | (refine URun.id ?_; first
          | refine URun.nil ?_
          | refine URun.many tabs rfl rfl (by kernel_rfl) ?_ ?_
          | refine URun.same tabs rfl rfl rfl ?_
          | refine URun.same2 tabs rfl rfl rfl ?_
          | refine URun.yes tabs rfl rfl (by decide) rfl ?_
          | refine URun.no tabs rfl rfl (by decide) rfl ?_
          | refine URun.yes tabs rfl rfl (fun h => h rfl) rfl ?_
          | refine URun.no tabs rfl rfl (fun h => h rfl) rfl ?_
          | refine URun.yes tabs rfl rfl (fun h => h ⟨rfl, rfl⟩) rfl ?_
          | refine URun.no tabs rfl rfl (fun h => h ⟨rfl, rfl⟩) rfl ?_
          | refine URun.split tabs rfl rfl rfl rfl (fun h => ?_) (fun h => ?_))
      | (refine TRun.id ?_; first
          | refine TRun.nil ?_
          | refine TRun.many rfl rfl (by kernel_rfl) ?_ ?_
          | refine TRun.same rfl rfl rfl ?_
          | refine TRun.same2 rfl rfl rfl ?_
          | refine TRun.yes rfl rfl (by decide) rfl ?_
          | refine TRun.no rfl rfl (by decide) rfl ?_
          | refine TRun.yes rfl rfl (fun h => h rfl) rfl ?_
          | refine TRun.no rfl rfl (fun h => h rfl) rfl ?_
          | refine TRun.yes rfl rfl (fun h => h ⟨rfl, rfl⟩) rfl ?_
          | refine TRun.no rfl rfl (fun h => h ⟨rfl, rfl⟩) rfl ?_
          | refine TRun.split rfl rfl rfl rfl (fun h => ?_) (fun h => ?_))
      | (refine HoldsT.id ?_; first
          | refine HoldsT.weak ?_ (l2 ls r1 r2 f1 f2 g1 g2 q1 q2 m k 0 r1 r2 hB hl hr hk ?_)
          | refine HoldsT.weak ?_ (HoldsT.exit hQ)
          | refine HoldsT.seq ?_
          | refine HoldsT.regionU ?_
          | refine HoldsT.drawn tabs ?_
          | refine HoldsT.yes rfl ?_
          | refine HoldsT.no rfl ?_
          | refine HoldsT.cond rfl (fun h => ?_) (fun h => ?_)
          | refine HoldsT.block ?_
          | refine HoldsT.ret ?_
          | refine HoldsT.skip ?_
          | refine HoldsT.exit ?_)
      | (refine okTr_intro ?_; kernel_rfl)
      | exact absurd rfl h
      | exact rowG2 rfl rfl rfl
      | exact rowG23 rfl rfl rfl
      | exact rowG1 rfl rfl
      | refine allProp_C ?_ ?_
      | refine And.intro ?_ ?_
      | omega
      | (show _ < List.length _; omega)
      | exact rowlen_intro rfl
      | exact lenEq_intro rfl
      | exact Nat.le_of_ble_eq_true rfl
      | (simp only [AV.rowlenD, AV.rowlen, AV.ncells, mulSz, toN, Option.map_some, Option.map_none, cutL, List.length_take, List.length_drop, List.length_append, List.length_cons, List.length_nil, List.length_set, Option.some.injEq, Int.reduceToNat] <;> omega))
    · refine WeakT.of ?_ ?_ (by kernel_rfl)
      · repeat' (first | exact TTle.junk _ _ | exact TTle.same _ | refine TTle.node ?_ ?_ | refine TTle.leaf ?_ | exact AVle.junk _ | exact AVle.rfl' rfl | exact AVle.nilS | exact AVle.nilB)
      · repeat' (first | exact OOle.none _ _ | exact OOle.same _ | refine OOle.node ?_ ?_ | exact OOle.leaf _ | exact OOle.gone _)
    · refine ⟨1, ⟨by decide, by decide⟩, ?_⟩
      refine WeakT.of ?_ ?_ (by kernel_rfl)
      · repeat' (first | exact TTle.junk _ _ | exact TTle.same _ | refine TTle.node ?_ ?_ | refine TTle.leaf ?_ | exact AVle.junk _ | exact AVle.rfl' rfl | exact AVle.nilS | exact AVle.nilB)
      · repeat' (first | exact OOle.none _ _ | exact OOle.same _ | refine OOle.node ?_ ?_ | exact OOle.leaf _ | exact OOle.gone _)
  · show HoldsT Try.prog _ (s1 ls r1 r2 f1 f2 g1 g2 q1 q2 m k 1) _
    repeat' (first
      | refine allProp_T ?_
      | exact trivial
      | (refine URun.id ?_; first
          | refine URun.nil ?_
          | refine URun.many tabs rfl rfl (by kernel_rfl) ?_ ?_
          | refine URun.same tabs rfl rfl rfl ?_
          | refine URun.same2 tabs rfl rfl rfl ?_
          | refine URun.yes tabs rfl rfl (by decide) rfl ?_
          | refine URun.no tabs rfl rfl (by decide) rfl ?_
          | refine URun.yes tabs rfl rfl (fun h => h rfl) rfl ?_
          | refine URun.no tabs rfl rfl (fun h => h rfl) rfl ?_
          | refine URun.yes tabs rfl rfl (fun h => h ⟨rfl, rfl⟩) rfl ?_
          | refine URun.no tabs rfl rfl (fun h => h ⟨rfl, rfl⟩) rfl ?_
          | refine URun.split tabs rfl rfl rfl rfl (fun h => ?_) (fun h => ?_))
      | (refine TRun.id ?_; first
          | refine TRun.nil ?_
          | refine TRun.many rfl rfl (by kernel_rfl) ?_ ?_
          | refine TRun.same rfl rfl rfl ?_
          | refine TRun.same2 rfl rfl rfl ?_
          | refine TRun.yes rfl rfl (by decide) rfl ?_
          | refine TRun.no rfl rfl (by decide) rfl ?_
          | refine TRun.yes rfl rfl (fun h => h rfl) rfl ?_
          | refine TRun.no rfl rfl (fun h => h rfl) rfl ?_
          | refine TRun.yes rfl rfl (fun h => h ⟨rfl, rfl⟩) rfl ?_
          | refine TRun.no rfl rfl (fun h => h ⟨rfl, rfl⟩) rfl ?_
          | refine TRun.split rfl rfl rfl rfl (fun h => ?_) (fun h => ?_))
      | (refine HoldsT.id ?_; first
          | refine HoldsT.weak ?_ (l2 ls r1 r2 f1 f2 g1 g2 q1 q2 m k 1 q1 q2 hB hl hr hk ?_)
          | refine HoldsT.weak ?_ (HoldsT.exit hQ)
          | refine HoldsT.seq ?_
          | refine HoldsT.regionU ?_
          | refine HoldsT.drawn tabs ?_
          | refine HoldsT.yes rfl ?_
          | refine HoldsT.no rfl ?_
          | refine HoldsT.cond rfl (fun h => ?_) (fun h => ?_)
          | refine HoldsT.block ?_
          | refine HoldsT.ret ?_
          | refine HoldsT.skip ?_
          | refine HoldsT.exit ?_)
      | (refine okTr_intro ?_; kernel_rfl)
      | exact absurd rfl h
      | exact rowG2 rfl rfl rfl
      | exact rowG23 rfl rfl rfl
      | exact rowG1 rfl rfl
      | refine allProp_C ?_ ?_
      | refine And.intro ?_ ?_
      | omega
      | (show _ < List.length _; omega)
      | exact rowlen_intro rfl
      | exact lenEq_intro rfl
      | exact Nat.le_of_ble_eq_true rfl
      | (simp only [AV.rowlenD, AV.rowlen, AV.ncells, mulSz, toN, Option.map_some, Option.map_none, cutL, List.length_take, List.length_drop, List.length_append, List.length_cons, List.length_nil, List.length_set, Option.some.injEq, Int.reduceToNat] <;> omega))
    · refine WeakT.of ?_ ?_ (by kernel_rfl)
      · repeat' (first | exact TTle.junk _ _ | exact TTle.same _ | refine TTle.node ?_ ?_ | refine TTle.leaf ?_ | exact AVle.junk _ | exact AVle.rfl' rfl | exact AVle.nilS | exact AVle.nilB)
      · repeat' (first | exact OOle.none _ _ | exact OOle.same _ | refine OOle.node ?_ ?_ | exact OOle.leaf _ | exact OOle.gone _)
    · refine ⟨2, ⟨by decide, by decide⟩, ?_⟩
      refine WeakT.of ?_ ?_ (by kernel_rfl)
      · repeat' (first | exact TTle.junk _ _ | exact TTle.same _ | refine TTle.node ?_ ?_ | refine TTle.leaf ?_ | exact AVle.junk _ | exact AVle.rfl' rfl | exact AVle.nilS | exact AVle.nilB)
      · repeat' (first | exact OOle.none _ _ | exact OOle.same _ | refine OOle.node ?_ ?_ | exact OOle.leaf _ | exact OOle.gone _)
  · show HoldsT Try.prog _ (s1 ls r1 r2 f1 f2 g1 g2 q1 q2 m k 2) _
    repeat' (first
      | refine allProp_T ?_
      | exact trivial
      | (refine URun.id ?_; first
          | refine URun.nil ?_
          | refine URun.many tabs rfl rfl (by kernel_rfl) ?_ ?_
          | refine URun.same tabs rfl rfl rfl ?_
          | refine URun.same2 tabs rfl rfl rfl ?_
          | refine URun.yes tabs rfl rfl (by decide) rfl ?_
          | refine URun.no tabs rfl rfl (by decide) rfl ?_
          | refine URun.yes tabs rfl rfl (fun h => h rfl) rfl ?_
          | refine URun.no tabs rfl rfl (fun h => h rfl) rfl ?_
          | refine URun.yes tabs rfl rfl (fun h => h ⟨rfl, rfl⟩) rfl ?_
          | refine URun.no tabs rfl rfl (fun h => h ⟨rfl, rfl⟩) rfl ?_
          | refine URun.split tabs rfl rfl rfl rfl (fun h => ?_) (fun h => ?_))
      | (refine TRun.id ?_; first
          | refine TRun.nil ?_
          | refine TRun.many rfl rfl (by kernel_rfl) ?_ ?_
          | refine TRun.same rfl rfl rfl ?_
          | refine TRun.same2 rfl rfl rfl ?_
          | refine TRun.yes rfl rfl (by decide) rfl ?_
          | refine TRun.no rfl rfl (by decide) rfl ?_
          | refine TRun.yes rfl rfl (fun h => h rfl) rfl ?_
          | refine TRun.no rfl rfl (fun h => h rfl) rfl ?_
          | refine TRun.yes rfl rfl (fun h => h ⟨rfl, rfl⟩) rfl ?_
          | refine TRun.no rfl rfl (fun h => h ⟨rfl, rfl⟩) rfl ?_
          | refine TRun.split rfl rfl rfl rfl (fun h => ?_) (fun h => ?_))
      | (refine HoldsT.id ?_; first
          | refine HoldsT.weak ?_ (HoldsT.exit hQ)
          | refine HoldsT.seq ?_
          | refine HoldsT.regionU ?_
          | refine HoldsT.drawn tabs ?_
          | refine HoldsT.yes rfl ?_
          | refine HoldsT.no rfl ?_
          | refine HoldsT.cond rfl (fun h => ?_) (fun h => ?_)
          | refine HoldsT.block ?_
          | refine HoldsT.ret ?_
          | refine HoldsT.skip ?_
          | refine HoldsT.exit ?_)
      | (refine okTr_intro ?_; kernel_rfl)
      | exact absurd rfl h
      | exact rowG2 rfl rfl rfl
      | exact rowG23 rfl rfl rfl
      | exact rowG1 rfl rfl
      | refine allProp_C ?_ ?_
      | refine And.intro ?_ ?_
      | omega
      | (show _ < List.length _; omega)
      | exact rowlen_intro rfl
      | exact lenEq_intro rfl
      | exact Nat.le_of_ble_eq_true rfl
      | (simp only [AV.rowlenD, AV.rowlen, AV.ncells, mulSz, toN, Option.map_some, Option.map_none, cutL, List.length_take, List.length_drop, List.length_append, List.length_cons, List.length_nil, List.length_set, Option.some.injEq, Int.reduceToNat] <;> omega))
    · refine WeakT.of ?_ ?_ (by kernel_rfl)
      · repeat' (first | exact TTle.junk _ _ | exact TTle.same _ | refine TTle.node ?_ ?_ | refine TTle.leaf ?_ | exact AVle.junk _ | exact AVle.rfl' rfl | exact AVle.nilS | exact AVle.nilB)
      · repeat' (first | exact OOle.none _ _ | exact OOle.same _ | refine OOle.node ?_ ?_ | exact OOle.leaf _ | exact OOle.gone _)
end

section
variable (ls : List (List UInt8)) (r1 r2 f1 f2 a b c d m k : Int) (hL : ls.length ≤ 140737488355328) (hB : ∀ n : Nat, (ls.getD n []).length ≤ 140737488355328)
include hL hB
set_option maxRecDepth 10000 in
set_option maxHeartbeats 8000000 in
theorem p7_no (hok : (decide (0 < (ls.length : Int)) && lightL ls) = false) : Pure Try.prog 7 [.slS ls, .agg [.int .i64 r1, .int .i64 r2], .agg [.int .i64 f1, .int .i64 f2], .int .u16 a, .int .u16 b, .int .u16 c, .int .u16 d, .int .i64 m, .int .u8 k] (.bool true) := by
  have k27 := p27 ls hL hB
  rw [hok] at k27
  refine Pure.ofT tab_ok Try.func7 rfl rfl [.tmp 18] rfl (by decide) rfl ⟨117, 7, (.node (.node (.node (.node (.node (.node (.node (.leaf (.slS ls)) (J 0)) (J 1)) (J 2)) (.node (.node (.node (.leaf (.int .u8 k)) (J 0)) (J 1)) (J 2))) (.node (.node (.node (.node (.leaf (.int .u16 b)) (J 0)) (J 1)) (J 2)) (J 3))) (.node (.node (.node (.node (.node (.leaf (.agg [.int .i64 f1, .int .i64 f2])) (J 0)) (J 1)) (J 2)) (J 3)) (.node (.node (.node (.node (.leaf (.int .u16 d)) (J 0)) (J 1)) (J 2)) (J 3)))) (.node (.node (.node (.node (.node (.node (.leaf (.agg [.int .i64 r1, .int .i64 r2])) (J 0)) (J 1)) (J 2)) (J 3)) (.node (.node (.node (.node (.leaf (.int .u16 c)) (J 0)) (J 1)) (J 2)) (J 3))) (.node (.node (.node (.node (.node (.leaf (.int .u16 a)) (J 0)) (J 1)) (J 2)) (J 3)) (.node (.node (.node (.node (.leaf (.int .i64 m)) (J 0)) (J 1)) (J 2)) (J 3))))), (OO 7)⟩ (by kernel_rfl) (by kernel_rfl) ?_
  repeat' (first
    | refine allProp_T ?_
    | exact trivial
    | (refine URun.id ?_; first
        | refine URun.nil ?_
        | refine URun.many tabs rfl rfl (by kernel_rfl) ?_ ?_
        | (refine URun.toCall 34 rfl ?_; first
          | refine URun.call tabs rfl rfl rfl rfl p34 rfl rfl ?_ rfl ?_)
        | (refine URun.toCall 27 rfl ?_; first
          | refine URun.call tabs rfl rfl rfl rfl k27 rfl rfl ?_ rfl ?_)
        | refine URun.same tabs rfl rfl rfl ?_
        | refine URun.same2 tabs rfl rfl rfl ?_
        | refine URun.split tabs rfl rfl rfl rfl (fun h => ?_) (fun h => ?_))
    | (refine TRun.id ?_; first
        | refine TRun.nil ?_
        | refine TRun.many rfl rfl (by kernel_rfl) ?_ ?_
        | (refine TRun.toCall 34 rfl ?_; first
          | refine TRun.call rfl rfl rfl rfl p34 rfl rfl ?_ rfl ?_)
        | (refine TRun.toCall 27 rfl ?_; first
          | refine TRun.call rfl rfl rfl rfl k27 rfl rfl ?_ rfl ?_)
        | refine TRun.same rfl rfl rfl ?_
        | refine TRun.same2 rfl rfl rfl ?_
        | refine TRun.split rfl rfl rfl rfl (fun h => ?_) (fun h => ?_))
    | (refine HoldsT.id ?_; first
        | refine HoldsT.seq ?_
        | refine HoldsT.regionU ?_
        | refine HoldsT.drawn tabs ?_
        | refine HoldsT.yes rfl ?_
        | refine HoldsT.no rfl ?_
        | refine HoldsT.cond rfl (fun h => ?_) (fun h => ?_)
        | refine HoldsT.block ?_
        | refine HoldsT.ret ?_
        | refine HoldsT.skip ?_
        | refine HoldsT.exit ?_)
    | (refine okTr_intro ?_; kernel_rfl)
    | exact absurd rfl h
    | refine allProp_C ?_ ?_
    | refine And.intro ?_ ?_
    | omega
    | (show _ < List.length _; omega)
    | exact rowlen_intro rfl
    | exact lenEq_intro rfl
    | exact Nat.le_of_ble_eq_true rfl
    | (simp only [AV.rowlenD, AV.rowlen, AV.ncells, mulSz, toN, Option.map_some, Option.map_none, cutL, List.length_take, List.length_drop, List.length_append, List.length_cons, List.length_nil, List.length_set, Option.some.injEq, Int.reduceToNat] <;> omega))
  exact FinC.te (y := .bool true) rfl rfl trivial rfl

set_option maxRecDepth 10000 in
set_option maxHeartbeats 8000000 in
theorem p7 (ha : inK .u16 a) (hb : inK .u16 b) (hc : inK .u16 c) (hd : inK .u16 d) (hk : inK .u8 k) : Pure Try.prog 7 [.slS ls, .agg [.int .i64 r1, .int .i64 r2], .agg [.int .i64 f1, .int .i64 f2], .int .u16 a, .int .u16 b, .int .u16 c, .int .u16 d, .int .i64 m, .int .u8 k] (.bool true) := by
  cases hok : (decide (0 < (ls.length : Int)) && lightL ls) with
  | false => exact p7_no ls r1 r2 f1 f2 a b c d m k hL hB hok
  | true =>
    have k27 := p27 ls hL hB
    rw [hok] at k27
    obtain ⟨h0, hl, hr⟩ := light_len hok
    have k28a := p28 ls c d h0 hc hd hB
    have k28b := p28 ls a b h0 ha hb hB
    generalize plL ls c = g1 at k28a
    generalize plC ls c d = g2 at k28a
    generalize plL ls a = q1 at k28b
    generalize plC ls a b = q2 at k28b
    refine Pure.ofT tab_ok Try.func7 rfl rfl [.tmp 18] rfl (by decide) rfl ⟨117, 7, (.node (.node (.node (.node (.node (.node (.node (.leaf (.slS ls)) (J 0)) (J 1)) (J 2)) (.node (.node (.node (.leaf (.int .u8 k)) (J 0)) (J 1)) (J 2))) (.node (.node (.node (.node (.leaf (.int .u16 b)) (J 0)) (J 1)) (J 2)) (J 3))) (.node (.node (.node (.node (.node (.leaf (.agg [.int .i64 f1, .int .i64 f2])) (J 0)) (J 1)) (J 2)) (J 3)) (.node (.node (.node (.node (.leaf (.int .u16 d)) (J 0)) (J 1)) (J 2)) (J 3)))) (.node (.node (.node (.node (.node (.node (.leaf (.agg [.int .i64 r1, .int .i64 r2])) (J 0)) (J 1)) (J 2)) (J 3)) (.node (.node (.node (.node (.leaf (.int .u16 c)) (J 0)) (J 1)) (J 2)) (J 3))) (.node (.node (.node (.node (.node (.leaf (.int .u16 a)) (J 0)) (J 1)) (J 2)) (J 3)) (.node (.node (.node (.node (.leaf (.int .i64 m)) (J 0)) (J 1)) (J 2)) (J 3))))), (OO 7)⟩ (by kernel_rfl) (by kernel_rfl) ?_
    repeat' (first
      | refine allProp_T ?_
      | exact trivial
      | (refine URun.id ?_; first
          | refine URun.nil ?_
          | refine URun.many tabs rfl rfl (by kernel_rfl) ?_ ?_
          | (refine URun.toCall 34 rfl ?_; first
            | refine URun.call tabs rfl rfl rfl rfl p34 rfl rfl ?_ rfl ?_)
          | (refine URun.toCall 27 rfl ?_; first
            | refine URun.call tabs rfl rfl rfl rfl k27 rfl rfl ?_ rfl ?_)
          | (refine URun.toCall 28 rfl ?_; first
            | refine URun.call tabs rfl rfl rfl rfl k28a rfl rfl ?_ rfl ?_
            | refine URun.call tabs rfl rfl rfl rfl k28b rfl rfl ?_ rfl ?_)
          | refine URun.same tabs rfl rfl rfl ?_
          | refine URun.same2 tabs rfl rfl rfl ?_
          | refine URun.split tabs rfl rfl rfl rfl (fun h => ?_) (fun h => ?_))
      | (refine TRun.id ?_; first
          | refine TRun.nil ?_
          | refine TRun.many rfl rfl (by kernel_rfl) ?_ ?_
          | (refine TRun.toCall 34 rfl ?_; first
            | refine TRun.call rfl rfl rfl rfl p34 rfl rfl ?_ rfl ?_)
          | (refine TRun.toCall 27 rfl ?_; first
            | refine TRun.call rfl rfl rfl rfl k27 rfl rfl ?_ rfl ?_)
          | (refine TRun.toCall 28 rfl ?_; first
            | refine TRun.call rfl rfl rfl rfl k28a rfl rfl ?_ rfl ?_
            | refine TRun.call rfl rfl rfl rfl k28b rfl rfl ?_ rfl ?_)
          | refine TRun.same rfl rfl rfl ?_
          | refine TRun.same2 rfl rfl rfl ?_
          | refine TRun.split rfl rfl rfl rfl (fun h => ?_) (fun h => ?_))
      | (refine HoldsT.id ?_; first
          | refine HoldsT.weak ?_ (l1 ls r1 r2 f1 f2 g1 g2 q1 q2 m k hB hl hr hk ?_)
          | refine HoldsT.seq ?_
          | refine HoldsT.regionU ?_
          | refine HoldsT.drawn tabs ?_
          | refine HoldsT.yes rfl ?_
          | refine HoldsT.no rfl ?_
          | refine HoldsT.cond rfl (fun h => ?_) (fun h => ?_)
          | refine HoldsT.block ?_
          | refine HoldsT.ret ?_
          | refine HoldsT.skip ?_
          | refine HoldsT.exit ?_)
      | (refine okTr_intro ?_; kernel_rfl)
      | exact absurd rfl h
      | exact rowG2 rfl rfl rfl
      | exact rowG23 rfl rfl rfl
      | exact rowG1 rfl rfl
      | refine allProp_C ?_ ?_
      | refine And.intro ?_ ?_
      | omega
      | (show _ < List.length _; omega)
      | exact rowlen_intro rfl
      | exact lenEq_intro rfl
      | exact Nat.le_of_ble_eq_true rfl
      | (simp only [AV.rowlenD, AV.rowlen, AV.ncells, mulSz, toN, Option.map_some, Option.map_none, cutL, List.length_take, List.length_drop, List.length_append, List.length_cons, List.length_nil, List.length_set, Option.some.injEq, Int.reduceToNat] <;> omega))
    · refine WeakT.of ?_ ?_ (by kernel_rfl)
      · repeat' (first | exact TTle.junk _ _ | exact TTle.same _ | refine TTle.node ?_ ?_ | refine TTle.leaf ?_ | exact AVle.junk _ | exact AVle.rfl' rfl | exact AVle.nilS | exact AVle.nilB)
      · repeat' (first | exact OOle.none _ _ | exact OOle.same _ | refine OOle.node ?_ ?_ | exact OOle.leaf _ | exact OOle.gone _)
    · exact FinC.te (y := .bool true) rfl rfl trivial rfl
end

end Go.Proofs.Ytefbgdnobnemkaa.AM
