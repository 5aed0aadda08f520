/-
  Ranges of numbers.
-/
import Derived.Test.YtefbgdnobnemkaaF27
set_option linter.unusedSimpArgs false
set_option linter.unusedVariables false
set_option linter.unusedSectionVars false
namespace Go.Proofs.Ytefbgdnobnemkaa.AM
open Go Go.RowKit

structure RgR where
  k : Int
  fl : Int
  fc : Int
  tl : Int
  tc : Int
def RgR.av (r : RgR) : AV := .agg [.int .i64 r.k, .int .i64 r.fl, .int .i64 r.fc, .int .i64 r.tl, .int .i64 r.tc]
def rgF (ls : List (List UInt8)) (a b : Int) : Int := if a.tmod ls.length > b.tmod ls.length then b.tmod ls.length else a.tmod ls.length
def rgT (ls : List (List UInt8)) (a b : Int) : Int := if a.tmod ls.length > b.tmod ls.length then a.tmod ls.length else b.tmod ls.length
def rgP (ls : List (List UInt8)) (l c : Int) : Int := c.tmod (((ls.getD l.toNat []).length : Int) + 1)
def rgS (k f t p q : Int) : RgR := if (f = t ∨ k = 2) ∧ p > q then ⟨k, f, q, t, p⟩ else ⟨k, f, p, t, q⟩
/-- A range of numbers. -/
def rgL (ls : List (List UInt8)) (k a b c d : Int) : RgR := rgS (k.tmod 3) (rgF ls a b) (rgT ls a b) (rgP ls (rgF ls a b) c) (rgP ls (rgT ls a b) d)

set_option maxRecDepth 10000 in
set_option maxHeartbeats 8000000 in
theorem p46 (ls : List (List UInt8)) (k a b c d : Int) (hl : ls.length ≤ 1000000000) (h0 : 0 < (ls.length : Int)) (hk : 0 ≤ k ∧ k ≤ 255) (ha : 0 ≤ a ∧ a ≤ 65535) (hb : 0 ≤ b ∧ b ≤ 65535) (hc : 0 ≤ c ∧ c ≤ 65535) (hd : 0 ≤ d ∧ d ≤ 65535) (hB : ∀ n : Nat, (ls.getD n []).length ≤ 1000000000000) : Pure Try.prog 46 [.slS ls, .int .u8 k, .int .u16 a, .int .u16 b, .int .u16 c, .int .u16 d] (rgL ls k a b c d).av := by
  have hk3 := tmod_in hk.1 (show (0 : Int) < 3 by omega)
  have h1 := tmod_in ha.1 h0
  have h2 := tmod_in hb.1 h0
  have hb1 := hB (a.tmod ls.length).toNat
  have hb2 := hB (b.tmod ls.length).toNat
  by_cases hab : a.tmod ls.length > b.tmod ls.length
  · have e1 : rgF ls a b = b.tmod ls.length := if_pos hab
    have e2 : rgT ls a b = a.tmod ls.length := if_pos hab
    unfold rgL
    rw [e1, e2]
    refine Pure.ofT tab2_ok Try.func46 rfl rfl [.cell 12 35] rfl (by decide) rfl ⟨102, 7, (.node (.node (.node (.node (.node (.node (.node (.leaf (.slS ls)) (J 0)) (J 1)) (J 2)) (J 3)) (.node (.node (.node (.node (.leaf (.int .u16 c)) (J 0)) (J 1)) (J 2)) (J 3))) (.node (.node (.node (.node (.node (.leaf (.int .u16 a)) (J 0)) (J 1)) (J 2)) (J 3)) (J 4))) (.node (.node (.node (.node (.node (.node (.leaf (.int .u8 k)) (J 0)) (J 1)) (J 2)) (J 3)) (.node (.node (.node (.node (.leaf (.int .u16 d)) (J 0)) (J 1)) (J 2)) (J 3))) (.node (.node (.node (.node (.node (.leaf (.int .u16 b)) (J 0)) (J 1)) (J 2)) (J 3)) (J 4)))), (OO 7)⟩ (by kernel_rfl) (by kernel_rfl) ?_
    repeat' (first
      | refine allProp_T ?_
      | exact trivial
      | (refine URun.id ?_; first
          | refine URun.nil ?_
          | refine URun.many tabs2 rfl rfl (by kernel_rfl) ?_ ?_
          | refine URun.same tabs2 rfl rfl rfl ?_
          | refine URun.same2 tabs2 rfl rfl rfl ?_
          | refine URun.yes tabs2 rfl rfl (by omega) rfl ?_
          | refine URun.no tabs2 rfl rfl (by omega) rfl ?_
          | refine URun.split tabs2 rfl rfl rfl rfl (fun h => ?_) (fun h => ?_))
      | (refine TRun.id ?_; first
          | refine TRun.nil ?_
          | refine TRun.many rfl rfl (by kernel_rfl) ?_ ?_
          | refine TRun.same rfl rfl rfl ?_
          | refine TRun.same2 rfl rfl rfl ?_
          | refine TRun.yes rfl rfl (by omega) rfl ?_
          | refine TRun.no rfl rfl (by omega) rfl ?_
          | refine TRun.split rfl rfl rfl rfl (fun h => ?_) (fun h => ?_))
      | (refine HoldsT.id ?_; first
          | refine HoldsT.seq ?_
          | refine HoldsT.regionU ?_
          | refine HoldsT.drawn tabs2 ?_
          | refine HoldsT.yes rfl ?_
          | refine HoldsT.no rfl ?_
          | refine HoldsT.cond rfl (fun h => ?_) (fun h => ?_)
          | refine HoldsT.block ?_
          | refine HoldsT.ret ?_
          | refine HoldsT.skip ?_
          | refine HoldsT.exit ?_)
      | (refine okTr_intro ?_; kernel_rfl)
      | exact absurd rfl h
      | refine allProp_C ?_ ?_
      | refine And.intro ?_ ?_
      | omega
      | (show _ < List.length _; omega)
      | exact rowlen_intro rfl
      | exact lenEq_intro rfl
      | exact Nat.le_of_ble_eq_true rfl
      | (simp only [AV.rowlenD, AV.rowlen, AV.ncells, mulSz, toN, Option.map_some, Option.map_none, cutL, List.length_take, List.length_drop, List.length_append, List.length_cons, List.length_nil, List.length_set, Option.some.injEq, Int.reduceToNat] <;> omega))
    all_goals refine FinC.t (y := .agg [.int .i64 _, .int .i64 _, .int .i64 _, .int .i64 _, .int .i64 _]) rfl rfl ⟨trivial, trivial, trivial, trivial, trivial, trivial⟩ (AVle.rfl' ?_)
    all_goals (unfold rgS rgP; split <;> first | rfl | (exfalso; omega))
  · have e1 : rgF ls a b = a.tmod ls.length := if_neg hab
    have e2 : rgT ls a b = b.tmod ls.length := if_neg hab
    unfold rgL
    rw [e1, e2]
    refine Pure.ofT tab2_ok Try.func46 rfl rfl [.cell 12 35] rfl (by decide) rfl ⟨102, 7, (.node (.node (.node (.node (.node (.node (.node (.leaf (.slS ls)) (J 0)) (J 1)) (J 2)) (J 3)) (.node (.node (.node (.node (.leaf (.int .u16 c)) (J 0)) (J 1)) (J 2)) (J 3))) (.node (.node (.node (.node (.node (.leaf (.int .u16 a)) (J 0)) (J 1)) (J 2)) (J 3)) (J 4))) (.node (.node (.node (.node (.node (.node (.leaf (.int .u8 k)) (J 0)) (J 1)) (J 2)) (J 3)) (.node (.node (.node (.node (.leaf (.int .u16 d)) (J 0)) (J 1)) (J 2)) (J 3))) (.node (.node (.node (.node (.node (.leaf (.int .u16 b)) (J 0)) (J 1)) (J 2)) (J 3)) (J 4)))), (OO 7)⟩ (by kernel_rfl) (by kernel_rfl) ?_
    repeat' (first
      | refine allProp_T ?_
      | exact trivial
      | (refine URun.id ?_; first
          | refine URun.nil ?_
          | refine URun.many tabs2 rfl rfl (by kernel_rfl) ?_ ?_
          | refine URun.same tabs2 rfl rfl rfl ?_
          | refine URun.same2 tabs2 rfl rfl rfl ?_
          | refine URun.yes tabs2 rfl rfl (by omega) rfl ?_
          | refine URun.no tabs2 rfl rfl (by omega) rfl ?_
          | refine URun.split tabs2 rfl rfl rfl rfl (fun h => ?_) (fun h => ?_))
      | (refine TRun.id ?_; first
          | refine TRun.nil ?_
          | refine TRun.many rfl rfl (by kernel_rfl) ?_ ?_
          | refine TRun.same rfl rfl rfl ?_
          | refine TRun.same2 rfl rfl rfl ?_
          | refine TRun.yes rfl rfl (by omega) rfl ?_
          | refine TRun.no rfl rfl (by omega) rfl ?_
          | refine TRun.split rfl rfl rfl rfl (fun h => ?_) (fun h => ?_))
      | (refine HoldsT.id ?_; first
          | refine HoldsT.seq ?_
          | refine HoldsT.regionU ?_
          | refine HoldsT.drawn tabs2 ?_
          | refine HoldsT.yes rfl ?_
          | refine HoldsT.no rfl ?_
          | refine HoldsT.cond rfl (fun h => ?_) (fun h => ?_)
          | refine HoldsT.block ?_
          | refine HoldsT.ret ?_
          | refine HoldsT.skip ?_
          | refine HoldsT.exit ?_)
      | (refine okTr_intro ?_; kernel_rfl)
      | exact absurd rfl h
      | refine allProp_C ?_ ?_
      | refine And.intro ?_ ?_
      | omega
      | (show _ < List.length _; omega)
      | exact rowlen_intro rfl
      | exact lenEq_intro rfl
      | exact Nat.le_of_ble_eq_true rfl
      | (simp only [AV.rowlenD, AV.rowlen, AV.ncells, mulSz, toN, Option.map_some, Option.map_none, cutL, List.length_take, List.length_drop, List.length_append, List.length_cons, List.length_nil, List.length_set, Option.some.injEq, Int.reduceToNat] <;> omega))
    all_goals refine FinC.t (y := .agg [.int .i64 _, .int .i64 _, .int .i64 _, .int .i64 _, .int .i64 _]) rfl rfl ⟨trivial, trivial, trivial, trivial, trivial, trivial⟩ (AVle.rfl' ?_)
    all_goals (unfold rgS rgP; split <;> first | rfl | (exfalso; omega))

theorem rg_valid (ls : List (List UInt8)) (k a b c d : Int) (h0 : 0 < (ls.length : Int)) (hk : 0 ≤ k) (ha : 0 ≤ a) (hb : 0 ≤ b) (hc : 0 ≤ c) (hd : 0 ≤ d) : validL ls (rgL ls k a b c d).k (rgL ls k a b c d).fl (rgL ls k a b c d).fc (rgL ls k a b c d).tl (rgL ls k a b c d).tc = true ∧ (rgL ls k a b c d).k = k.tmod 3 := by
  have h1 := tmod_in ha h0
  have h2 := tmod_in hb h0
  have hk3 := tmod_in hk (show (0 : Int) < 3 by omega)
  have f1 : 0 ≤ rgF ls a b ∧ rgF ls a b ≤ rgT ls a b ∧ rgT ls a b < ls.length := by unfold rgF rgT; split <;> omega
  have p1 : 0 ≤ rgP ls (rgF ls a b) c ∧ rgP ls (rgF ls a b) c < ((ls.getD (rgF ls a b).toNat []).length : Int) + 1 := tmod_in hc (by omega)
  have p2 : 0 ≤ rgP ls (rgT ls a b) d ∧ rgP ls (rgT ls a b) d < ((ls.getD (rgT ls a b).toNat []).length : Int) + 1 := tmod_in hd (by omega)
  unfold rgL
  generalize rgP ls (rgF ls a b) c = p at *
  generalize rgP ls (rgT ls a b) d = q at *
  generalize rgF ls a b = f at *
  generalize rgT ls a b = t at *
  generalize k.tmod 3 = k at *
  have hft : f = t → (ls.getD f.toNat []).length = (ls.getD t.toNat []).length := fun e => by rw [e]
  unfold rgS validL placeL ltP
  split <;> (simp only [Bool.and_eq_true, Bool.or_eq_true, decide_eq_true_eq, Bool.not_eq_true', decide_eq_false_iff_not, and_true]; by_cases e : f = t; (have e2 := hft e; clear hft h1 h2; omega); (clear hft h1 h2; omega))

end Go.Proofs.Ytefbgdnobnemkaa.AM
