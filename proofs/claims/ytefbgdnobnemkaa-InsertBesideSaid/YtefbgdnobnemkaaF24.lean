/-
  A range that is cut out.
-/
import Derived.Test.YtefbgdnobnemkaaF23
set_option linter.unusedSimpArgs false
set_option linter.unusedVariables false
set_option linter.unusedSectionVars false
namespace Go.Proofs.Ytefbgdnobnemkaa.AM
open Go Go.RowKit

structure ChR where
  ok : Bool
  at' : Int
  old : List (List UInt8)
  new : List (List UInt8)
def ChR.av (r : ChR) : AV := .tup [.agg [.int .i64 r.at', .slS r.old, .slS r.new], .bool r.ok]
def chNo : ChR := ⟨false, 0, [], []⟩
theorem noLeC : AVle (.tup [.agg [.int .i64 0, .nilsl, .nilsl], .bool false]) chNo.av :=
  .tup (.cons (.agg (.cons (.refl _) (.cons .nilS (.cons .nilS .nil)))) (.cons (.refl _) .nil))

/-- A range is cut out. -/
def cutR (ls : List (List UInt8)) (k fl fc tl tc : Int) : ChR :=
  if validL ls k fl fc tl tc = true then
    if k = 0 then ⟨true, fl, midL ls fl (tl - fl + 1), [(ls.getD fl.toNat []).take fc.toNat ++ (ls.getD tl.toNat []).drop tc.toNat]⟩
    else if k = 2 then ⟨true, fl, midL ls fl (tl - fl + 1), eachL (holeL ls k fl fc tl tc) fl (tl - fl + 1).toNat⟩
    else if tl - fl + 1 = ls.length then ⟨true, fl, midL ls fl (tl - fl + 1), [[]]⟩
    else ⟨true, fl, midL ls fl (tl - fl + 1), []⟩
  else chNo

set_option maxRecDepth 10000 in
set_option maxHeartbeats 8000000 in
theorem p89 (ls : List (List UInt8)) (k fl fc tl tc : Int) (hL : ls.length ≤ 1000000000) (hB : ∀ n : Nat, (ls.getD n []).length ≤ 1000000000000) :
    Pure Try.prog 89 [.slS ls, .agg [.int .i64 k, .int .i64 fl, .int .i64 fc, .int .i64 tl, .int .i64 tc]] (cutR ls k fl fc tl tc).av := by
  have k55 := p55 ls k fl fc tl tc
  cases hv : validL ls k fl fc tl tc with
  | false =>
    rw [hv] at k55
    have e : cutR ls k fl fc tl tc = chNo := by unfold cutR; rw [hv]; simp
    rw [e]
    refine Pure.ofT tab_ok Try.func89 rfl rfl [.cell 4 47, .tmp 5] rfl (by decide) rfl ⟨77, 7, (.node (.node (.node (.node (.node (.node (.node (.leaf (.slS ls)) (J 0)) (J 1)) (J 2)) (J 3)) (J 4)) (J 5)) (.node (.node (.node (.node (.node (.node (.leaf (.agg [.int .i64 k, .int .i64 fl, .int .i64 fc, .int .i64 tl, .int .i64 tc])) (J 0)) (J 1)) (J 2)) (J 3)) (J 4)) (J 5))), (OO 7)⟩ (by kernel_rfl) (by kernel_rfl) ?_
    repeat' (first
      | refine allProp_T ?_
      | exact trivial
      | (refine URun.id ?_; first
          | refine URun.nil ?_
          | refine URun.many tabs rfl rfl (by kernel_rfl) ?_ ?_
          | (refine URun.toCall 55 rfl ?_; first
            | refine URun.call tabs rfl rfl rfl rfl k55 rfl rfl ?_ rfl ?_)
          | refine URun.same tabs rfl rfl rfl ?_
          | refine URun.same2 tabs rfl rfl rfl ?_
          | refine URun.split tabs rfl rfl rfl rfl (fun h => ?_) (fun h => ?_))
      | (refine TRun.id ?_; first
          | refine TRun.nil ?_
          | refine TRun.many rfl rfl (by kernel_rfl) ?_ ?_
          | (refine TRun.toCall 55 rfl ?_; first
            | refine TRun.call rfl rfl rfl rfl k55 rfl rfl ?_ rfl ?_)
          | refine TRun.same rfl rfl rfl ?_
          | refine TRun.same2 rfl rfl rfl ?_
          | refine TRun.split rfl rfl rfl rfl (fun h => ?_) (fun h => ?_))
      | (refine HoldsT.id ?_; first
          | refine HoldsT.seq ?_
          | refine HoldsT.regionU ?_
          | refine HoldsT.drawn tabs ?_
          | refine HoldsT.yes rfl ?_
          | refine HoldsT.no rfl ?_
          | refine HoldsT.cond rfl (fun h => ?_) (fun h => ?_)
          | refine HoldsT.block ?_
          | refine HoldsT.ret ?_
          | refine HoldsT.skip ?_
          | refine HoldsT.exit ?_)
      | (refine okTr_intro ?_; kernel_rfl)
      | exact absurd rfl h
      | refine allProp_C ?_ ?_
      | refine And.intro ?_ ?_
      | omega
      | (show _ < List.length _; omega)
      | exact rowlen_intro rfl
      | exact lenEq_intro rfl
      | exact Nat.le_of_ble_eq_true rfl
      | (simp only [AV.rowlenD, AV.rowlen, AV.ncells, mulSz, toN, Option.map_some, Option.map_none, cutL, List.length_take, List.length_drop, List.length_append, List.length_cons, List.length_nil, List.length_set, Option.some.injEq, Int.reduceToNat] <;> omega))
    all_goals exact FinC.t (y := .tup [.agg [.int .i64 _, .nilsl, .nilsl], .bool _]) rfl rfl ⟨⟨trivial, trivial, trivial, trivial⟩, trivial, trivial⟩ noLeC
  | true =>
    rw [hv] at k55
    obtain ⟨hv1, hv2⟩ := validL_spec hv
    have hbf := hB fl.toNat
    have hbt := hB tl.toNat
    have hv3 : k = 0 → (0 ≤ fc ∧ fc ≤ ((ls.getD fl.toNat []).length : Int)) ∧ (0 ≤ tc ∧ tc ≤ ((ls.getD tl.toNat []).length : Int)) := by
      intro e
      rcases hv2 with ⟨_, q1, q2, _⟩ | q | q
      · exact ⟨q1, q2⟩
      · omega
      · omega
    have k80 := fun now => p80 ls now fl (tl - fl + 1) (by omega) (by omega) (by omega) (by omega)
    have k80n : Pure Try.prog 80 [.slS ls, .int .i64 fl, .int .i64 (tl - fl + 1), .nilsl] (.agg [.int .i64 fl, .slS (midL ls fl (tl - fl + 1)), .slS []]) := (k80 []).le (.cons (.refl _) (.cons (.refl _) (.cons (.refl _) (.cons .nilS .nil))))
    have k106 := each107 ls k fl fc tl tc (holeL ls k fl fc tl tc) ls fl tl (by omega) (by omega) (by omega) (by omega) (fun i h1 h2 => p107 ls k fl fc tl tc i (by omega) hB hv h1 h2)
    refine Pure.ofT tab_ok Try.func89 rfl rfl [.cell 4 47, .tmp 5] rfl (by decide) rfl ⟨77, 7, (.node (.node (.node (.node (.node (.node (.node (.leaf (.slS ls)) (J 0)) (J 1)) (J 2)) (J 3)) (J 4)) (J 5)) (.node (.node (.node (.node (.node (.node (.leaf (.agg [.int .i64 k, .int .i64 fl, .int .i64 fc, .int .i64 tl, .int .i64 tc])) (J 0)) (J 1)) (J 2)) (J 3)) (J 4)) (J 5))), (OO 7)⟩ (by kernel_rfl) (by kernel_rfl) ?_
    repeat' (first
      | refine allProp_T ?_
      | exact trivial
      | (refine URun.id ?_; first
          | refine URun.nil ?_
          | refine URun.many tabs rfl rfl (by kernel_rfl) ?_ ?_
          | (refine URun.toCall 55 rfl ?_; first
            | refine URun.call tabs rfl rfl rfl rfl k55 rfl rfl ?_ rfl ?_)
          | (refine URun.toCall 80 rfl ?_; first
            | refine URun.call tabs rfl rfl rfl rfl k80n rfl rfl ?_ rfl ?_
            | refine URun.call tabs rfl rfl rfl rfl (k80 _) rfl rfl ?_ rfl ?_)
          | (refine URun.toCall 106 rfl ?_; first
            | refine URun.call tabs rfl rfl rfl rfl k106 rfl rfl ?_ rfl ?_)
          | refine URun.same tabs rfl rfl rfl ?_
          | refine URun.same2 tabs rfl rfl rfl ?_
          | refine URun.split tabs rfl rfl rfl rfl (fun h => ?_) (fun h => ?_))
      | (refine TRun.id ?_; first
          | refine TRun.nil ?_
          | refine TRun.many rfl rfl (by kernel_rfl) ?_ ?_
          | (refine TRun.toCall 55 rfl ?_; first
            | refine TRun.call rfl rfl rfl rfl k55 rfl rfl ?_ rfl ?_)
          | (refine TRun.toCall 80 rfl ?_; first
            | refine TRun.call rfl rfl rfl rfl k80n rfl rfl ?_ rfl ?_
            | refine TRun.call rfl rfl rfl rfl (k80 _) rfl rfl ?_ rfl ?_)
          | (refine TRun.toCall 106 rfl ?_; first
            | refine TRun.call rfl rfl rfl rfl k106 rfl rfl ?_ rfl ?_)
          | refine TRun.same rfl rfl rfl ?_
          | refine TRun.same2 rfl rfl rfl ?_
          | refine TRun.split rfl rfl rfl rfl (fun h => ?_) (fun h => ?_))
      | (refine HoldsT.id ?_; first
          | refine HoldsT.seq ?_
          | refine HoldsT.regionU ?_
          | refine HoldsT.drawn tabs ?_
          | refine HoldsT.yes rfl ?_
          | refine HoldsT.no rfl ?_
          | refine HoldsT.cond rfl (fun h => ?_) (fun h => ?_)
          | refine HoldsT.block ?_
          | refine HoldsT.ret ?_
          | refine HoldsT.skip ?_
          | refine HoldsT.exit ?_)
      | (refine okTr_intro ?_; kernel_rfl)
      | exact absurd rfl h
      | (show isBox _ _ = true; exact rfl)
      | refine allProp_C ?_ ?_
      | refine And.intro ?_ ?_
      | omega
      | (show _ < List.length _; omega)
      | exact rowlen_intro rfl
      | exact lenEq_intro rfl
      | exact Nat.le_of_ble_eq_true rfl
      | (simp only [AV.rowlenD, AV.rowlen, AV.ncells, mulSz, toN, Option.map_some, Option.map_none, cutL, List.length_take, List.length_drop, List.length_append, List.length_cons, List.length_nil, List.length_set, Option.some.injEq, Int.reduceToNat] <;> omega))
    all_goals refine FinC.t (y := .tup [.agg [.int .i64 _, .slS _, .slS _], .bool _]) rfl rfl ⟨⟨trivial, trivial, trivial, trivial⟩, trivial, trivial⟩ (AVle.rfl' ?_)
    all_goals (unfold cutR; rw [hv]; simp only [if_true]; (repeat' split) <;> first | rfl | (exfalso; omega))

end Go.Proofs.Ytefbgdnobnemkaa.AM
