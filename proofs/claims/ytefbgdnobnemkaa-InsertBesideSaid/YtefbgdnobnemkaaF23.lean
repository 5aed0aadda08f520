/-
  Lines that closures make.
-/
import Derived.Test.YtefbgdnobnemkaaG2
set_option linter.unusedSimpArgs false
set_option linter.unusedVariables false
set_option linter.unusedSectionVars false
namespace Go.Proofs.Ytefbgdnobnemkaa.AM
open Go Go.RowKit

/-- What a closure makes of lines, n of them from one on. -/
def eachL (F : Int → List UInt8) (a : Int) : Nat → List (List UInt8)
  | 0 => []
  | n + 1 => eachL F a n ++ [F (a + (n : Nat))]
theorem eachL_length (F : Int → List UInt8) (a : Int) : ∀ n, (eachL F a n).length = n
  | 0 => rfl
  | n + 1 => by simp [eachL, eachL_length F a n]
theorem eachL_map (F : Int → List UInt8) (a : Int) : ∀ n, eachL F a n = (List.range n).map fun i => F (a + (i : Nat))
  | 0 => rfl
  | n + 1 => by rw [eachL, eachL_map F a n, List.range_succ, List.map_append]; rfl

/-- A line without what a range has of it. -/
def holeL (ls : List (List UInt8)) (k fl fc tl tc i : Int) : List UInt8 := (ls.getD i.toNat []).take (colF ls k fl fc i).toNat ++ (ls.getD i.toNat []).drop (colT ls k tl tc i).toNat

set_option maxRecDepth 10000 in
set_option maxHeartbeats 8000000 in
theorem p107 (l0 : List (List UInt8)) (k fl fc tl tc i : Int) (hL : l0.length ≤ 1000000000) (hB : ∀ n : Nat, (l0.getD n []).length ≤ 1000000000000) (h : validL l0 k fl fc tl tc = true) (h1 : fl ≤ i) (h2 : i ≤ tl) :
    Pure Try.prog 107 [.int .i64 i, .cptr (.agg [.slS l0]) 0, .cptr (.agg [.int .i64 k, .int .i64 fl, .int .i64 fc, .int .i64 tl, .int .i64 tc]) 0] (.str (holeL l0 k fl fc tl tc i)) := by
  obtain ⟨hv1, hv2⟩ := validL_spec h
  have hb := hB i.toNat
  obtain ⟨c1, c2, c3⟩ := cols_ok h h1 h2
  have c3 : colT l0 k tl tc i ≤ ((l0.getD i.toNat []).length : Int) := c3
  have k56 := p56 l0 k fl fc tl tc i (by omega) (by omega) hB (by omega)
  refine Pure.ofT tab_ok Try.func107 rfl rfl [.tmp 4] rfl (by decide) rfl ⟨27, 5, (.node (.node (.node (.node (.node (.leaf (.int .i64 i)) (J 0)) (J 1)) (J 2)) (.node (.node (.node (.leaf (.cptr (.agg [.int .i64 k, .int .i64 fl, .int .i64 fc, .int .i64 tl, .int .i64 tc]) 0)) (J 0)) (J 1)) (J 2))) (.node (.node (.node (.node (.leaf (.cptr (.agg [.slS l0]) 0)) (J 0)) (J 1)) (J 2)) (J 3))), (OO 5)⟩ (by kernel_rfl) (by kernel_rfl) ?_
  repeat' (first
    | refine allProp_T ?_
    | exact trivial
    | (refine URun.id ?_; first
        | refine URun.nil ?_
        | refine URun.many tabs rfl rfl (by kernel_rfl) ?_ ?_
        | (refine URun.toCall 56 rfl ?_; first
          | refine URun.call tabs rfl rfl rfl rfl k56 rfl rfl ?_ rfl ?_)
        | refine URun.same tabs rfl rfl rfl ?_
        | refine URun.same2 tabs rfl rfl rfl ?_
        | refine URun.split tabs rfl rfl rfl rfl (fun h => ?_) (fun h => ?_))
    | (refine TRun.id ?_; first
        | refine TRun.nil ?_
        | refine TRun.many rfl rfl (by kernel_rfl) ?_ ?_
        | (refine TRun.toCall 56 rfl ?_; first
          | refine TRun.call rfl rfl rfl rfl k56 rfl rfl ?_ rfl ?_)
        | refine TRun.same rfl rfl rfl ?_
        | refine TRun.same2 rfl rfl rfl ?_
        | refine TRun.split rfl rfl rfl rfl (fun h => ?_) (fun h => ?_))
    | (refine HoldsT.id ?_; first
        | refine HoldsT.seq ?_
        | refine HoldsT.regionU ?_
        | refine HoldsT.drawn tabs ?_
        | refine HoldsT.yes rfl ?_
        | refine HoldsT.no rfl ?_
        | refine HoldsT.cond rfl (fun h => ?_) (fun h => ?_)
        | refine HoldsT.block ?_
        | refine HoldsT.ret ?_
        | refine HoldsT.skip ?_
        | refine HoldsT.exit ?_)
    | (refine okTr_intro ?_; kernel_rfl)
    | exact absurd rfl h
    | refine allProp_C ?_ ?_
    | refine And.intro ?_ ?_
    | omega
    | (show _ < List.length _; omega)
    | exact rowlen_intro rfl
    | exact lenEq_intro rfl
    | exact Nat.le_of_ble_eq_true rfl
    | (simp only [AV.rowlenD, AV.rowlen, AV.ncells, mulSz, toN, Option.map_some, Option.map_none, cutL, List.length_take, List.length_drop, List.length_append, List.length_cons, List.length_nil, List.length_set, Option.some.injEq, Int.reduceToNat] <;> omega))
  all_goals exact FinC.te (y := .str _) rfl rfl trivial rfl

def each107_sh (l0 : List (List UInt8)) (k fl fc tl tc : Int) (ls : List (List UInt8)) (a b i : Int) (out : List (List UInt8)) : TS := ⟨31, 5, (.node (.node (.node (.node (.node (.leaf (.slS ls)) (J 0)) (.node (.leaf (.ptr 8 0)) (J 0))) (J 2)) (.node (.node (.node (.leaf (.int .i64 b)) (J 0)) (.node (.leaf (.int .i64 i)) (J 0))) (J 2))) (.node (.node (.node (.node (.leaf (.int .i64 a)) (J 0)) (.node (.leaf (.own 22 out.length)) (J 0))) (J 2)) (.node (.node (.node (.leaf (.fn 107 [.cptr (.agg [.slS l0]) 0, .cptr (.agg [.int .i64 k, .int .i64 fl, .int .i64 fc, .int .i64 tl, .int .i64 tc]) 0])) (J 0)) (J 1)) (J 2)))), (.node (.node (.node (.node (OO 1) (.node (.leaf (some ⟨true, false, .agg [.int .i64 0, .nilsl, .nilsl], 47⟩)) (OO 0))) (OO 2)) (.node (OO 2) (.node (.node (OO 0) (.leaf (some ⟨true, true, .slS out, 9⟩))) (OO 1)))) (OO 4))⟩

set_option maxRecDepth 10000 in
set_option maxHeartbeats 8000000 in
theorem each107 (l0 : List (List UInt8)) (k fl fc tl tc : Int) (F : Int → List UInt8) (ls : List (List UInt8)) (a b : Int) (hL : ls.length ≤ 1000000000) (h0 : 0 ≤ a) (h1 : a ≤ b) (h2 : b < ls.length)
    (hF : ∀ i, a ≤ i → i ≤ b → Pure Try.prog 107 [.int .i64 i, .cptr (.agg [.slS l0]) 0, .cptr (.agg [.int .i64 k, .int .i64 fl, .int .i64 fc, .int .i64 tl, .int .i64 tc]) 0] (.str (F i))) :
    Pure Try.prog 106 [.slS ls, .int .i64 a, .int .i64 b, .fn 107 [.cptr (.agg [.slS l0]) 0, .cptr (.agg [.int .i64 k, .int .i64 fl, .int .i64 fc, .int .i64 tl, .int .i64 tc]) 0]] (.agg [.int .i64 a, .slS (midL ls a (b - a + 1)), .slS (eachL F a (b - a + 1).toNat)]) := by
  refine Pure.ofT tab_ok Try.func106 rfl rfl [.cell 8 47] rfl (by decide) rfl ⟨31, 5, (.node (.node (.node (.node (.node (.leaf (.slS ls)) (J 0)) (J 1)) (J 2)) (.node (.node (.node (.leaf (.int .i64 b)) (J 0)) (J 1)) (J 2))) (.node (.node (.node (.node (.leaf (.int .i64 a)) (J 0)) (J 1)) (J 2)) (.node (.node (.node (.leaf (.fn 107 [.cptr (.agg [.slS l0]) 0, .cptr (.agg [.int .i64 k, .int .i64 fl, .int .i64 fc, .int .i64 tl, .int .i64 tc]) 0])) (J 0)) (J 1)) (J 2)))), (OO 5)⟩ (by kernel_rfl) (by kernel_rfl) ?_
  repeat' (first
    | refine allProp_T ?_
    | exact trivial
    | (refine URun.id ?_; first
        | refine URun.nil ?_
        | refine URun.many tabs rfl rfl (by kernel_rfl) ?_ ?_
        | refine URun.same tabs rfl rfl rfl ?_
        | refine URun.same2 tabs rfl rfl rfl ?_
        | refine URun.split tabs rfl rfl rfl rfl (fun h => ?_) (fun h => ?_))
    | (refine TRun.id ?_; first
        | refine TRun.nil ?_
        | refine TRun.many rfl rfl (by kernel_rfl) ?_ ?_
        | refine TRun.same rfl rfl rfl ?_
        | refine TRun.same2 rfl rfl rfl ?_
        | refine TRun.split rfl rfl rfl rfl (fun h => ?_) (fun h => ?_))
    | (refine HoldsT.id ?_; first
        | refine HoldsT.seq ?_
        | refine HoldsT.regionU ?_
        | refine HoldsT.drawn tabs ?_
        | refine HoldsT.yes rfl ?_
        | refine HoldsT.no rfl ?_
        | refine HoldsT.cond rfl (fun h => ?_) (fun h => ?_)
        | refine HoldsT.block ?_
        | refine HoldsT.ret ?_
        | refine HoldsT.skip ?_
        | refine HoldsT.exit ?_)
    | (refine okTr_intro ?_; kernel_rfl)
    | exact absurd rfl h
    | refine allProp_C ?_ ?_
    | refine And.intro ?_ ?_
    | omega
    | (show _ < List.length _; omega)
    | exact rowlen_intro rfl
    | exact lenEq_intro rfl
    | exact Nat.le_of_ble_eq_true rfl
    | (simp only [AV.rowlenD, AV.rowlen, AV.ncells, mulSz, toN, Option.map_some, Option.map_none, cutL, List.length_take, List.length_drop, List.length_append, List.length_cons, List.length_nil, List.length_set, Option.some.injEq, Int.reduceToNat] <;> omega))
  refine HoldsT.loop (fun x : Int × List (List UInt8) => each107_sh l0 k fl fc tl tc ls a b x.1 x.2) (fun x => (b + 1 - x.1).toNat) (fun x => a ≤ x.1 ∧ x.1 ≤ b + 1 ∧ x.2 = eachL F a (x.1 - a).toNat) (a, []) ?_ ?_ (fun _ => by kernel_rfl) ?_
  · refine (WeakT.canon 9 22 9 (.slS []) rfl rfl rfl (by kernel_rfl) rfl).trans ?_
    refine WeakT.of ?_ ?_ (by kernel_rfl)
    · repeat' (first | exact TTle.junk _ _ | exact TTle.same _ | refine TTle.node ?_ ?_ | refine TTle.leaf ?_ | exact AVle.junk _ | exact AVle.rfl' rfl | exact AVle.nilS | exact AVle.nilB)
    · repeat' (first | exact OOle.none _ _ | exact OOle.same _ | refine OOle.node ?_ ?_ | exact OOle.leaf _ | exact OOle.gone _)
  · exact ⟨by simp, by simp only; omega, by simp [eachL]⟩
  · intro x hx
    obtain ⟨i, out⟩ := x
    obtain ⟨h3, h4, h5⟩ := hx
    simp only at h3 h4 h5
    have hlen : out.length = (i - a).toNat := by rw [h5]; exact eachL_length _ _ _
    have k80 := p80 ls out a (b - a + 1) (by omega) h0 (by omega) (by omega)
    show HoldsT Try.prog _ (each107_sh l0 k fl fc tl tc ls a b i out) _
    repeat' (first
      | refine allProp_T ?_
      | exact trivial
      | (refine URun.id ?_; first
          | refine URun.nil ?_
          | refine URun.many tabs rfl rfl (by kernel_rfl) ?_ ?_
          | (refine URun.toCall 107 rfl ?_; first
            | refine URun.call tabs rfl rfl rfl rfl (hF i (by omega) (by omega)) rfl rfl ?_ rfl ?_)
          | (refine URun.toCall 80 rfl ?_; first
            | refine URun.call tabs rfl rfl rfl rfl k80 rfl rfl ?_ rfl ?_)
          | refine URun.same tabs rfl rfl rfl ?_
          | refine URun.same2 tabs rfl rfl rfl ?_
          | refine URun.split tabs rfl rfl rfl rfl (fun h => ?_) (fun h => ?_))
      | (refine TRun.id ?_; first
          | refine TRun.nil ?_
          | refine TRun.many rfl rfl (by kernel_rfl) ?_ ?_
          | (refine TRun.toCall 107 rfl ?_; first
            | refine TRun.call rfl rfl rfl rfl (hF i (by omega) (by omega)) rfl rfl ?_ rfl ?_)
          | (refine TRun.toCall 80 rfl ?_; first
            | refine TRun.call rfl rfl rfl rfl k80 rfl rfl ?_ rfl ?_)
          | refine TRun.same rfl rfl rfl ?_
          | refine TRun.same2 rfl rfl rfl ?_
          | refine TRun.split rfl rfl rfl rfl (fun h => ?_) (fun h => ?_))
      | (refine HoldsT.id ?_; first
          | refine HoldsT.seq ?_
          | refine HoldsT.regionU ?_
          | refine HoldsT.drawn tabs ?_
          | refine HoldsT.yes rfl ?_
          | refine HoldsT.no rfl ?_
          | refine HoldsT.cond rfl (fun h => ?_) (fun h => ?_)
          | refine HoldsT.block ?_
          | refine HoldsT.ret ?_
          | refine HoldsT.skip ?_
          | refine HoldsT.exit ?_)
      | (refine okTr_intro ?_; kernel_rfl)
      | exact absurd rfl h
      | refine allProp_C ?_ ?_
      | refine And.intro ?_ ?_
      | omega
      | (show _ < List.length _; omega)
      | exact rowlen_intro rfl
      | exact lenEq_intro rfl
      | exact Nat.le_of_ble_eq_true rfl
      | (simp only [AV.rowlenD, AV.rowlen, AV.ncells, mulSz, toN, Option.map_some, Option.map_none, cutL, List.length_take, List.length_drop, List.length_append, List.length_cons, List.length_nil, List.length_set, Option.some.injEq, Int.reduceToNat] <;> omega))
    · refine ⟨(i + 1, out ++ [F i]), ⟨by simp only at *; omega, by simp only at *; omega, by simp only at *; omega, ?_⟩, ?_⟩
      · simp only
        rw [show (i + 1 - a).toNat = (i - a).toNat + 1 by omega, eachL, ← h5, show a + ((i - a).toNat : Int) = i by omega]
      · refine WeakT.of ?_ ?_ (by kernel_rfl)
        · repeat' (first | exact TTle.junk _ _ | exact TTle.same _ | refine TTle.node ?_ ?_ | refine TTle.leaf ?_ | exact AVle.junk _ | exact AVle.rfl' rfl | exact AVle.nilS | exact AVle.nilB | exact AVle.rfl' (congrArg (AV.own 22) (tail_row _ _)))
        · repeat' (first | exact OOle.none _ _ | exact OOle.same _ | refine OOle.node ?_ ?_ | exact OOle.leaf _ | exact OOle.gone _)
    · refine FinC.te (y := .agg [.int .i64 _, .slS _, .slS _]) rfl rfl ⟨trivial, trivial, trivial, trivial⟩ (congrArg (fun z => AV.agg [.int .i64 a, .slS (midL ls a (b - a + 1)), .slS z]) ?_)
      rw [h5, show i = b + 1 by omega, show b + 1 - a = b - a + 1 by omega]

end Go.Proofs.Ytefbgdnobnemkaa.AM
