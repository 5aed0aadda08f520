/-
  Lines that are shifted, as the document says.
-/
import Derived.Test.YtefbgdnobnemkaaDoorD4
import Derived.Test.YtefbgdnobnemkaaDoorFB
set_option linter.unusedSimpArgs false
set_option linter.unusedVariables false
set_option linter.unusedSectionVars false
namespace Go.Proofs.YtefbgdnobnemkaaDoor.AM
open Go Go.RowKit

def shF : Bool → List UInt8 → Int → List UInt8
  | true => shLf
  | false => shR
/-- Lines shifted, or not. -/
def shiftR (ls : List (List UInt8)) (f t n : Int) (left : Bool) : ChR :=
  if 1 ≤ n ∧ 0 ≤ f ∧ f ≤ t ∧ t < ls.length then ⟨true, f, midL ls f (t - f + 1), eachL (fun i => shF left (ls.getD i.toNat []) (min n 1024)) f (t - f + 1).toNat⟩ else chNo
theorem shift_len (ls : List (List UInt8)) (f t n : Int) (b : Bool) : (shiftR ls f t n b).old.length ≤ ls.length ∧ (shiftR ls f t n b).new.length ≤ ls.length := by
  unfold shiftR
  split
  · rename_i h
    refine ⟨by simp only [midL]; exact cutL_le _ _ _, ?_⟩
    simp only [eachL_length]; omega
  · exact ⟨by simp [chNo], by simp [chNo]⟩

set_option maxRecDepth 10000 in
set_option maxHeartbeats 8000000 in
theorem q26r (ls : List (List UInt8)) (f t n : Int) (hL : ls.length ≤ 1000000000) (hB : ∀ n : Nat, (ls.getD n []).length ≤ 1000000000000) : Pure Tryd.prog 26 [.slS ls, .int .i64 f, .int .i64 t, .int .i64 n, .bool false] (shiftR ls f t n false).av := by
  by_cases hg : 1 ≤ n ∧ 0 ≤ f ∧ f ≤ t ∧ t < ls.length
  · unfold shiftR
    rw [if_pos hg]
    exact p90r ls f t n hL hB hg.2.1 hg.2.2.1 hg.2.2.2 hg.1
  · have e : shiftR ls f t n false = chNo := if_neg hg
    rw [e]
    refine Pure.ofT tab2_ok Tryd.func26 rfl rfl [.cell 10 31, .tmp 11] rfl (by decide) rfl ⟨37, 6, (.node (.node (.node (.node (.node (.node (.leaf (.slS ls)) (J 0)) (J 1)) (J 2)) (.node (.node (.node (.leaf (.bool false)) (J 0)) (J 1)) (J 2))) (.node (.node (.node (.node (.leaf (.int .i64 t)) (J 0)) (J 1)) (J 2)) (J 3))) (.node (.node (.node (.node (.node (.leaf (.int .i64 f)) (J 0)) (J 1)) (J 2)) (J 3)) (.node (.node (.node (.node (.leaf (.int .i64 n)) (J 0)) (J 1)) (J 2)) (J 3)))), (OO 6)⟩ (by kernel_rfl) (by kernel_rfl) ?_
    repeat' (first
      | refine allProp_T ?_
      | exact trivial
      | (refine URun.id ?_; first
          | refine URun.nil ?_
          | refine URun.many tabs2 rfl rfl (by kernel_rfl) ?_ ?_
          | refine URun.same tabs2 rfl rfl rfl ?_
          | refine URun.same2 tabs2 rfl rfl rfl ?_
          | refine URun.split tabs2 rfl rfl rfl rfl (fun h => ?_) (fun h => ?_))
      | (refine TRun.id ?_; first
          | refine TRun.nil ?_
          | refine TRun.many rfl rfl (by kernel_rfl) ?_ ?_
          | refine TRun.same rfl rfl rfl ?_
          | refine TRun.same2 rfl rfl rfl ?_
          | refine TRun.split rfl rfl rfl rfl (fun h => ?_) (fun h => ?_))
      | (refine HoldsT.id ?_; first
          | refine HoldsT.seq ?_
          | refine HoldsT.regionU ?_
          | refine HoldsT.drawn tabs2 ?_
          | refine HoldsT.yes rfl ?_
          | refine HoldsT.no rfl ?_
          | refine HoldsT.cond rfl (fun h => ?_) (fun h => ?_)
          | refine HoldsT.block ?_
          | refine HoldsT.ret ?_
          | refine HoldsT.skip ?_
          | refine HoldsT.exit ?_)
      | (refine okTr_intro ?_; kernel_rfl)
      | exact absurd rfl h
      | refine allProp_C ?_ ?_
      | refine And.intro ?_ ?_
      | omega
      | (show _ < List.length _; omega)
      | exact rowlen_intro rfl
      | exact lenEq_intro rfl
      | exact Nat.le_of_ble_eq_true rfl
      | (simp only [AV.rowlenD, AV.rowlen, AV.ncells, mulSz, toN, Option.map_some, Option.map_none, cutL, List.length_take, List.length_drop, List.length_append, List.length_cons, List.length_nil, List.length_set, Option.some.injEq, Int.reduceToNat] <;> omega))
    all_goals first
      | exact FinC.t (y := .tup [.agg [.int .i64 _, .nilsl, .nilsl], .bool _]) rfl rfl ⟨⟨trivial, trivial, trivial, trivial⟩, trivial, trivial⟩ noLeC
      | (exfalso; omega)

set_option maxRecDepth 10000 in
set_option maxHeartbeats 8000000 in
theorem q26l (ls : List (List UInt8)) (f t n : Int) (hL : ls.length ≤ 1000000000) (hB : ∀ n : Nat, (ls.getD n []).length ≤ 1000000000000) : Pure Tryd.prog 26 [.slS ls, .int .i64 f, .int .i64 t, .int .i64 n, .bool true] (shiftR ls f t n true).av := by
  by_cases hg : 1 ≤ n ∧ 0 ≤ f ∧ f ≤ t ∧ t < ls.length
  · unfold shiftR
    rw [if_pos hg]
    exact p90l ls f t n hL hB hg.2.1 hg.2.2.1 hg.2.2.2 hg.1
  · have e : shiftR ls f t n true = chNo := if_neg hg
    rw [e]
    refine Pure.ofT tab2_ok Tryd.func26 rfl rfl [.cell 10 31, .tmp 11] rfl (by decide) rfl ⟨37, 6, (.node (.node (.node (.node (.node (.node (.leaf (.slS ls)) (J 0)) (J 1)) (J 2)) (.node (.node (.node (.leaf (.bool true)) (J 0)) (J 1)) (J 2))) (.node (.node (.node (.node (.leaf (.int .i64 t)) (J 0)) (J 1)) (J 2)) (J 3))) (.node (.node (.node (.node (.node (.leaf (.int .i64 f)) (J 0)) (J 1)) (J 2)) (J 3)) (.node (.node (.node (.node (.leaf (.int .i64 n)) (J 0)) (J 1)) (J 2)) (J 3)))), (OO 6)⟩ (by kernel_rfl) (by kernel_rfl) ?_
    repeat' (first
      | refine allProp_T ?_
      | exact trivial
      | (refine URun.id ?_; first
          | refine URun.nil ?_
          | refine URun.many tabs2 rfl rfl (by kernel_rfl) ?_ ?_
          | refine URun.same tabs2 rfl rfl rfl ?_
          | refine URun.same2 tabs2 rfl rfl rfl ?_
          | refine URun.split tabs2 rfl rfl rfl rfl (fun h => ?_) (fun h => ?_))
      | (refine TRun.id ?_; first
          | refine TRun.nil ?_
          | refine TRun.many rfl rfl (by kernel_rfl) ?_ ?_
          | refine TRun.same rfl rfl rfl ?_
          | refine TRun.same2 rfl rfl rfl ?_
          | refine TRun.split rfl rfl rfl rfl (fun h => ?_) (fun h => ?_))
      | (refine HoldsT.id ?_; first
          | refine HoldsT.seq ?_
          | refine HoldsT.regionU ?_
          | refine HoldsT.drawn tabs2 ?_
          | refine HoldsT.yes rfl ?_
          | refine HoldsT.no rfl ?_
          | refine HoldsT.cond rfl (fun h => ?_) (fun h => ?_)
          | refine HoldsT.block ?_
          | refine HoldsT.ret ?_
          | refine HoldsT.skip ?_
          | refine HoldsT.exit ?_)
      | (refine okTr_intro ?_; kernel_rfl)
      | exact absurd rfl h
      | refine allProp_C ?_ ?_
      | refine And.intro ?_ ?_
      | omega
      | (show _ < List.length _; omega)
      | exact rowlen_intro rfl
      | exact lenEq_intro rfl
      | exact Nat.le_of_ble_eq_true rfl
      | (simp only [AV.rowlenD, AV.rowlen, AV.ncells, mulSz, toN, Option.map_some, Option.map_none, cutL, List.length_take, List.length_drop, List.length_append, List.length_cons, List.length_nil, List.length_set, Option.some.injEq, Int.reduceToNat] <;> omega))
    all_goals first
      | exact FinC.t (y := .tup [.agg [.int .i64 _, .nilsl, .nilsl], .bool _]) rfl rfl ⟨⟨trivial, trivial, trivial, trivial⟩, trivial, trivial⟩ noLeC
      | (exfalso; omega)

def sh27ro (ls out : List (List UInt8)) (f t m i : Int) : TS := ⟨91, 7, (.node (.node (.node (.node (.node (.node (.node (.leaf (.slS ls)) (J 0)) (J 1)) (J 2)) (J 3)) (.node (.node (.node (.node (.leaf (.bool false)) (J 0)) (J 1)) (J 2)) (.node (.node (.node (.leaf (.own 83 out.length)) (J 0)) (J 1)) (J 2)))) (.node (.node (.node (.node (.node (.leaf (.int .i64 t)) (J 0)) (J 1)) (J 2)) (.node (.node (.node (.leaf (.ptr 10 0)) (J 0)) (J 1)) (J 2))) (J 4))) (.node (.node (.node (.node (.node (.node (.leaf (.int .i64 f)) (J 0)) (J 1)) (J 2)) (J 3)) (.node (J 3) (.node (.node (.node (.leaf (.int .i64 i)) (J 0)) (J 1)) (J 2)))) (.node (.node (.node (.node (.node (.leaf (.int .i64 m)) (J 0)) (J 1)) (J 2)) (J 3)) (J 4)))), (.node (.node (OO 5) (.node (.node (OO 3) (.node (.node (.node (.leaf (some ⟨true, false, .agg [.int .i64 0, .nilsl, .nilsl], 31⟩)) (OO 0)) (OO 1)) (OO 2))) (OO 4))) (.node (OO 5) (.node (.node (.node (OO 2) (.node (.node (OO 0) (.leaf (some ⟨true, true, .slS out, 9⟩))) (OO 1))) (OO 3)) (OO 4))))⟩
def sh27ri (ls out : List (List UInt8)) (f t m i : Int) (s : List UInt8) (k : Int) : TS := ⟨91, 7, (.node (.node (.node (.node (.node (.node (.node (.leaf (.slS ls)) (J 0)) (J 1)) (J 2)) (J 3)) (.node (.node (.node (.node (.leaf (.bool false)) (J 0)) (J 1)) (J 2)) (.node (.node (.node (.leaf (.own 83 out.length)) (J 0)) (J 1)) (J 2)))) (.node (.node (.node (.node (.node (.leaf (.int .i64 t)) (J 0)) (J 1)) (J 2)) (.node (.node (.node (.leaf (.ptr 10 0)) (J 0)) (J 1)) (J 2))) (.node (J 3) (.node (.node (.node (.leaf (.str s)) (J 0)) (J 1)) (J 2))))) (.node (.node (.node (.node (.node (.node (.leaf (.int .i64 f)) (J 0)) (J 1)) (J 2)) (J 3)) (.node (J 3) (.node (.node (.node (.leaf (.int .i64 i)) (J 0)) (J 1)) (J 2)))) (.node (.node (.node (.node (.node (.leaf (.int .i64 m)) (J 0)) (J 1)) (J 2)) (J 3)) (.node (J 3) (.node (.node (.node (.leaf (.int .i64 k)) (J 0)) (J 1)) (J 2)))))), (.node (.node (OO 5) (.node (.node (OO 3) (.node (.node (.node (.leaf (some ⟨true, false, .agg [.int .i64 0, .nilsl, .nilsl], 31⟩)) (OO 0)) (OO 1)) (OO 2))) (OO 4))) (.node (OO 5) (.node (.node (.node (OO 2) (.node (.node (OO 0) (.leaf (some ⟨true, true, .slS out, 9⟩))) (OO 1))) (OO 3)) (OO 4))))⟩
set_option maxRecDepth 10000 in
set_option maxHeartbeats 8000000 in
theorem q27r (ls : List (List UInt8)) (f t n : Int) (hL : ls.length ≤ 1000000000) (hB : ∀ n : Nat, (ls.getD n []).length ≤ 1000000000) : Pure Tryd.prog 27 [.slS ls, .int .i64 f, .int .i64 t, .int .i64 n, .bool false] (shiftR ls f t n false).av := by
  by_cases hg : 1 ≤ n ∧ 0 ≤ f ∧ f ≤ t ∧ t < ls.length
  · have e : shiftR ls f t n false = ⟨true, f, midL ls f (t - f + 1), eachL (fun i => shF false (ls.getD i.toNat []) (min n 1024)) f (t - f + 1).toNat⟩ := if_pos hg
    rw [e]
    have k77 := fun now => p77 ls now f t hL (by omega) (by omega) (by omega)
    have hm0 : 1 ≤ min n 1024 ∧ min n 1024 ≤ 1024 := by omega
    have hm4 : (4 : Int) * min n 1024 ≤ 4096 := by omega
    refine Pure.ofT tab2_ok Tryd.func27 rfl rfl [.cell 10 31, .tmp 11] rfl (by decide) rfl ⟨91, 7, (.node (.node (.node (.node (.node (.node (.node (.leaf (.slS ls)) (J 0)) (J 1)) (J 2)) (J 3)) (.node (.node (.node (.node (.leaf (.bool false)) (J 0)) (J 1)) (J 2)) (J 3))) (.node (.node (.node (.node (.node (.leaf (.int .i64 t)) (J 0)) (J 1)) (J 2)) (J 3)) (J 4))) (.node (.node (.node (.node (.node (.node (.leaf (.int .i64 f)) (J 0)) (J 1)) (J 2)) (J 3)) (J 4)) (.node (.node (.node (.node (.node (.leaf (.int .i64 n)) (J 0)) (J 1)) (J 2)) (J 3)) (J 4)))), (OO 7)⟩ (by kernel_rfl) (by kernel_rfl) ?_
    repeat' (first
      | refine allProp_T ?_
      | exact trivial
      | (refine URun.id ?_; first
          | refine URun.nil ?_
          | refine URun.many tabs2 rfl rfl (by kernel_rfl) ?_ ?_
          | refine URun.same tabs2 rfl rfl rfl ?_
          | refine URun.same2 tabs2 rfl rfl rfl ?_
          | refine URun.yes tabs2 rfl rfl (by omega) rfl ?_
          | refine URun.no tabs2 rfl rfl (by omega) rfl ?_
          | refine URun.split tabs2 rfl rfl rfl rfl (fun h => ?_) (fun h => ?_))
      | (refine TRun.id ?_; first
          | refine TRun.nil ?_
          | refine TRun.many rfl rfl (by kernel_rfl) ?_ ?_
          | refine TRun.same rfl rfl rfl ?_
          | refine TRun.same2 rfl rfl rfl ?_
          | refine TRun.yes rfl rfl (by omega) rfl ?_
          | refine TRun.no rfl rfl (by omega) rfl ?_
          | refine TRun.split rfl rfl rfl rfl (fun h => ?_) (fun h => ?_))
      | (refine HoldsT.id ?_; first
          | refine HoldsT.seq ?_
          | refine HoldsT.regionU ?_
          | refine HoldsT.drawn tabs2 ?_
          | refine HoldsT.yes rfl ?_
          | refine HoldsT.no rfl ?_
          | refine HoldsT.cond rfl (fun h => ?_) (fun h => ?_)
          | refine HoldsT.block ?_
          | refine HoldsT.ret ?_
          | refine HoldsT.skip ?_
          | refine HoldsT.exit ?_)
      | (refine okTr_intro ?_; kernel_rfl)
      | exact absurd rfl h
      | refine allProp_C ?_ ?_
      | refine And.intro ?_ ?_
      | omega
      | (show _ < List.length _; omega)
      | exact rowlen_intro rfl
      | exact lenEq_intro rfl
      | exact Nat.le_of_ble_eq_true rfl
      | (simp only [AV.rowlenD, AV.rowlen, AV.ncells, mulSz, toN, Option.map_some, Option.map_none, cutL, List.length_take, List.length_drop, List.length_append, List.length_cons, List.length_nil, List.length_set, Option.some.injEq, Int.reduceToNat] <;> omega))
    generalize min n 1024 = m at *
    have k37 := q37 32 (4 * m) ⟨by omega, by omega⟩ (by omega) (by omega)
    have k37 : Pure Tryd.prog 37 [.int .u8 32, .int .i64 (4 * m)] (.str (List.replicate (4 * m).toNat 32)) := k37
    have hrl : (List.replicate (4 * m).toNat (32 : UInt8)).length = (4 * m).toNat := List.length_replicate
    refine HoldsT.loop (fun x : Int × List (List UInt8) => sh27ro ls x.2 f t m x.1) (fun x => (t + 1 - x.1).toNat) (fun x => f ≤ x.1 ∧ x.1 ≤ t + 1 ∧ x.2 = eachL (fun i => shF false (ls.getD i.toNat []) m) f (x.1 - f).toNat) (f, []) ?_ ?_ (fun _ => by kernel_rfl) ?_
    · refine (WeakT.canon 12 83 9 (.slS []) rfl rfl rfl (by kernel_rfl) rfl).trans ?_
      refine WeakT.of ?_ ?_ (by kernel_rfl)
      · repeat' (first | exact TTle.junk _ _ | exact TTle.same _ | refine TTle.node ?_ ?_ | refine TTle.leaf ?_ | exact AVle.junk _ | exact AVle.rfl' rfl | exact AVle.nilS | exact AVle.nilB)
      · repeat' (first | exact OOle.none _ _ | exact OOle.same _ | refine OOle.node ?_ ?_ | exact OOle.leaf _ | exact OOle.gone _)
    · exact ⟨by simp, by simp only; omega, by simp [eachL]⟩
    · intro x hx
      obtain ⟨i, out⟩ := x
      obtain ⟨g1, g2, g3⟩ := hx
      simp only at g1 g2 g3
      have hli := hB i.toNat
      have hfi : f + ((i - f).toNat : Int) = i := by omega
      have hol : out.length = (i - f).toNat := by rw [g3]; exact eachL_length _ _ _
      have hlen : out.length + 1 = (eachL (fun i => shF false (ls.getD i.toNat []) m) f ((i - f).toNat + 1)).length := by rw [eachL_length, hol]
      show HoldsT Tryd.prog _ (sh27ro ls out f t m i) _
      repeat' (first
        | refine allProp_T ?_
        | exact trivial
        | (refine URun.id ?_; first
            | refine URun.nil ?_
            | refine URun.many tabs2 rfl rfl (by kernel_rfl) ?_ ?_
            | (refine URun.toCall 37 rfl ?_; first
              | refine URun.call tabs2 rfl rfl rfl rfl k37 rfl rfl ?_ rfl ?_)
            | (refine URun.toCall 35 rfl ?_; first
              | refine URun.call tabs2 rfl rfl rfl rfl (k77 _) rfl rfl ?_ rfl ?_)
            | refine URun.same tabs2 rfl rfl rfl ?_
            | refine URun.same2 tabs2 rfl rfl rfl ?_
            | refine URun.split tabs2 rfl rfl rfl rfl (fun h => ?_) (fun h => ?_))
        | (refine TRun.id ?_; first
            | refine TRun.nil ?_
            | refine TRun.many rfl rfl (by kernel_rfl) ?_ ?_
            | (refine TRun.toCall 37 rfl ?_; first
              | refine TRun.call rfl rfl rfl rfl k37 rfl rfl ?_ rfl ?_)
            | (refine TRun.toCall 35 rfl ?_; first
              | refine TRun.call rfl rfl rfl rfl (k77 _) rfl rfl ?_ rfl ?_)
            | refine TRun.same rfl rfl rfl ?_
            | refine TRun.same2 rfl rfl rfl ?_
            | refine TRun.split rfl rfl rfl rfl (fun h => ?_) (fun h => ?_))
        | (refine HoldsT.id ?_; first
            | refine HoldsT.seq ?_
            | refine HoldsT.regionU ?_
            | refine HoldsT.drawn tabs2 ?_
            | refine HoldsT.yes rfl ?_
            | refine HoldsT.no rfl ?_
            | refine HoldsT.cond rfl (fun h => ?_) (fun h => ?_)
            | refine HoldsT.block ?_
            | refine HoldsT.ret ?_
            | refine HoldsT.skip ?_
            | refine HoldsT.exit ?_)
        | refine HoldsT.rounds 1 ?_
        | refine HoldsT.round ?_
        | (refine okTr_intro ?_; kernel_rfl)
        | exact absurd rfl h
        | refine allProp_C ?_ ?_
        | refine And.intro ?_ ?_
        | omega
        | (show _ < List.length _; omega)
        | exact rowlen_intro rfl
        | exact lenEq_intro rfl
        | exact Nat.le_of_ble_eq_true rfl
        | (simp only [AV.rowlenD, AV.rowlen, AV.ncells, mulSz, toN, Option.map_some, Option.map_none, cutL, List.length_take, List.length_drop, List.length_append, List.length_cons, List.length_nil, List.length_set, Option.some.injEq, Int.reduceToNat] <;> omega))
      rotate_right
      · refine FinC.te (y := .tup [.agg [.int .i64 _, .slS _, .slS _], .bool _]) rfl rfl ⟨⟨trivial, trivial, trivial, trivial⟩, trivial, trivial⟩ ?_
        rw [g3, show i - f = t - f + 1 by omega]; rfl
      all_goals
        have hrow : ∀ z : List UInt8, z = shF false (ls.getD i.toNat []) m → out ++ [z] = eachL (fun i => shF false (ls.getD i.toNat []) m) f ((i - f).toNat + 1) := fun z hz => by rw [hz, eachL, ← g3, hfi]
        have hza : ls.getD i.toNat [] ≠ [] → List.replicate (4 * m).toNat 32 ++ ls.getD i.toNat [] = shF false (ls.getD i.toNat []) m := fun h => by
          show _ = shR _ _
          unfold shR spc
          rw [if_neg h, show m * 4 = 4 * m by omega]
        have hzb : ¬ ls.getD i.toNat [] ≠ [] → ls.getD i.toNat [] = shF false (ls.getD i.toNat []) m := fun h => by
          show _ = shR _ _
          unfold shR
          rw [if_pos (Classical.not_not.1 h), Classical.not_not.1 h]
        refine ⟨(i + 1, eachL (fun i => shF false (ls.getD i.toNat []) m) f ((i - f).toNat + 1)), ⟨by simp only; omega, by simp only; omega, by simp only; omega, by simp only; rw [show (i + 1 - f).toNat = (i - f).toNat + 1 by omega]⟩, ?_⟩
        refine WeakT.of ?_ ?_ (by kernel_rfl)
        · repeat' (first | exact TTle.junk _ _ | exact TTle.same _ | refine TTle.node ?_ ?_ | refine TTle.leaf ?_ | exact AVle.junk _ | exact AVle.rfl' rfl | exact AVle.rfl' (congrArg (AV.own 83) hlen))
        · repeat' (first | exact OOle.none _ _ | exact OOle.same _ | refine OOle.node ?_ ?_ | exact OOle.leaf _ | exact OOle.eq (congrArg (fun z => some (Obj.mk true true (.slS z) 9)) (hrow _ (hza ‹_›))) | exact OOle.eq (congrArg (fun z => some (Obj.mk true true (.slS z) 9)) (hrow _ (hzb ‹_›))) | exact OOle.gone _)
  · have e : shiftR ls f t n false = chNo := if_neg hg
    rw [e]
    refine Pure.ofT tab2_ok Tryd.func27 rfl rfl [.cell 10 31, .tmp 11] rfl (by decide) rfl ⟨91, 7, (.node (.node (.node (.node (.node (.node (.node (.leaf (.slS ls)) (J 0)) (J 1)) (J 2)) (J 3)) (.node (.node (.node (.node (.leaf (.bool false)) (J 0)) (J 1)) (J 2)) (J 3))) (.node (.node (.node (.node (.node (.leaf (.int .i64 t)) (J 0)) (J 1)) (J 2)) (J 3)) (J 4))) (.node (.node (.node (.node (.node (.node (.leaf (.int .i64 f)) (J 0)) (J 1)) (J 2)) (J 3)) (J 4)) (.node (.node (.node (.node (.node (.leaf (.int .i64 n)) (J 0)) (J 1)) (J 2)) (J 3)) (J 4)))), (OO 7)⟩ (by kernel_rfl) (by kernel_rfl) ?_
    repeat' (first
      | refine allProp_T ?_
      | exact trivial
      | (refine URun.id ?_; first
          | refine URun.nil ?_
          | refine URun.many tabs2 rfl rfl (by kernel_rfl) ?_ ?_
          | (refine URun.toCall 36 rfl ?_; first
            | refine URun.call tabs2 rfl rfl rfl rfl q36 rfl rfl ?_ rfl ?_)
          | refine URun.same tabs2 rfl rfl rfl ?_
          | refine URun.same2 tabs2 rfl rfl rfl ?_
          | refine URun.split tabs2 rfl rfl rfl rfl (fun h => ?_) (fun h => ?_))
      | (refine TRun.id ?_; first
          | refine TRun.nil ?_
          | refine TRun.many rfl rfl (by kernel_rfl) ?_ ?_
          | (refine TRun.toCall 36 rfl ?_; first
            | refine TRun.call rfl rfl rfl rfl q36 rfl rfl ?_ rfl ?_)
          | refine TRun.same rfl rfl rfl ?_
          | refine TRun.same2 rfl rfl rfl ?_
          | refine TRun.split rfl rfl rfl rfl (fun h => ?_) (fun h => ?_))
      | (refine HoldsT.id ?_; first
          | refine HoldsT.seq ?_
          | refine HoldsT.regionU ?_
          | refine HoldsT.drawn tabs2 ?_
          | refine HoldsT.yes rfl ?_
          | refine HoldsT.no rfl ?_
          | refine HoldsT.cond rfl (fun h => ?_) (fun h => ?_)
          | refine HoldsT.block ?_
          | refine HoldsT.ret ?_
          | refine HoldsT.skip ?_
          | refine HoldsT.exit ?_)
      | (refine okTr_intro ?_; kernel_rfl)
      | exact absurd rfl h
      | refine allProp_C ?_ ?_
      | refine And.intro ?_ ?_
      | omega
      | (show _ < List.length _; omega)
      | exact rowlen_intro rfl
      | exact lenEq_intro rfl
      | exact Nat.le_of_ble_eq_true rfl
      | (simp only [AV.rowlenD, AV.rowlen, AV.ncells, mulSz, toN, Option.map_some, Option.map_none, cutL, List.length_take, List.length_drop, List.length_append, List.length_cons, List.length_nil, List.length_set, Option.some.injEq, Int.reduceToNat] <;> omega))
    all_goals first
      | exact FinC.t (y := .tup [.agg [.int .i64 _, .nilsl, .nilsl], .bool _]) rfl rfl ⟨⟨trivial, trivial, trivial, trivial⟩, trivial, trivial⟩ noLeC
      | (exfalso; omega)

def sh27lo (ls out : List (List UInt8)) (f t m i : Int) : TS := ⟨91, 7, (.node (.node (.node (.node (.node (.node (.node (.leaf (.slS ls)) (J 0)) (J 1)) (J 2)) (J 3)) (.node (.node (.node (.node (.leaf (.bool true)) (J 0)) (J 1)) (J 2)) (.node (.node (.node (.leaf (.own 83 out.length)) (J 0)) (J 1)) (J 2)))) (.node (.node (.node (.node (.node (.leaf (.int .i64 t)) (J 0)) (J 1)) (J 2)) (.node (.node (.node (.leaf (.ptr 10 0)) (J 0)) (J 1)) (J 2))) (J 4))) (.node (.node (.node (.node (.node (.node (.leaf (.int .i64 f)) (J 0)) (J 1)) (J 2)) (J 3)) (.node (J 3) (.node (.node (.node (.leaf (.int .i64 i)) (J 0)) (J 1)) (J 2)))) (.node (.node (.node (.node (.node (.leaf (.int .i64 m)) (J 0)) (J 1)) (J 2)) (J 3)) (J 4)))), (.node (.node (OO 5) (.node (.node (OO 3) (.node (.node (.node (.leaf (some ⟨true, false, .agg [.int .i64 0, .nilsl, .nilsl], 31⟩)) (OO 0)) (OO 1)) (OO 2))) (OO 4))) (.node (OO 5) (.node (.node (.node (OO 2) (.node (.node (OO 0) (.leaf (some ⟨true, true, .slS out, 9⟩))) (OO 1))) (OO 3)) (OO 4))))⟩
def sh27li (ls out : List (List UInt8)) (f t m i : Int) (s : List UInt8) (k : Int) : TS := ⟨91, 7, (.node (.node (.node (.node (.node (.node (.node (.leaf (.slS ls)) (J 0)) (J 1)) (J 2)) (J 3)) (.node (.node (.node (.node (.leaf (.bool true)) (J 0)) (J 1)) (J 2)) (.node (.node (.node (.leaf (.own 83 out.length)) (J 0)) (J 1)) (J 2)))) (.node (.node (.node (.node (.node (.leaf (.int .i64 t)) (J 0)) (J 1)) (J 2)) (.node (.node (.node (.leaf (.ptr 10 0)) (J 0)) (J 1)) (J 2))) (.node (J 3) (.node (.node (.node (.leaf (.str s)) (J 0)) (J 1)) (J 2))))) (.node (.node (.node (.node (.node (.node (.leaf (.int .i64 f)) (J 0)) (J 1)) (J 2)) (J 3)) (.node (J 3) (.node (.node (.node (.leaf (.int .i64 i)) (J 0)) (J 1)) (J 2)))) (.node (.node (.node (.node (.node (.leaf (.int .i64 m)) (J 0)) (J 1)) (J 2)) (J 3)) (.node (J 3) (.node (.node (.node (.leaf (.int .i64 k)) (J 0)) (J 1)) (J 2)))))), (.node (.node (OO 5) (.node (.node (OO 3) (.node (.node (.node (.leaf (some ⟨true, false, .agg [.int .i64 0, .nilsl, .nilsl], 31⟩)) (OO 0)) (OO 1)) (OO 2))) (OO 4))) (.node (OO 5) (.node (.node (.node (OO 2) (.node (.node (OO 0) (.leaf (some ⟨true, true, .slS out, 9⟩))) (OO 1))) (OO 3)) (OO 4))))⟩
set_option maxRecDepth 10000 in
set_option maxHeartbeats 8000000 in
theorem q27l (ls : List (List UInt8)) (f t n : Int) (hL : ls.length ≤ 1000000000) (hB : ∀ n : Nat, (ls.getD n []).length ≤ 1000000000) : Pure Tryd.prog 27 [.slS ls, .int .i64 f, .int .i64 t, .int .i64 n, .bool true] (shiftR ls f t n true).av := by
  by_cases hg : 1 ≤ n ∧ 0 ≤ f ∧ f ≤ t ∧ t < ls.length
  · have e : shiftR ls f t n true = ⟨true, f, midL ls f (t - f + 1), eachL (fun i => shF true (ls.getD i.toNat []) (min n 1024)) f (t - f + 1).toNat⟩ := if_pos hg
    rw [e]
    have k77 := fun now => p77 ls now f t hL (by omega) (by omega) (by omega)
    have hm0 : 1 ≤ min n 1024 ∧ min n 1024 ≤ 1024 := by omega
    have hm4 : (4 : Int) * min n 1024 ≤ 4096 := by omega
    refine Pure.ofT tab2_ok Tryd.func27 rfl rfl [.cell 10 31, .tmp 11] rfl (by decide) rfl ⟨91, 7, (.node (.node (.node (.node (.node (.node (.node (.leaf (.slS ls)) (J 0)) (J 1)) (J 2)) (J 3)) (.node (.node (.node (.node (.leaf (.bool true)) (J 0)) (J 1)) (J 2)) (J 3))) (.node (.node (.node (.node (.node (.leaf (.int .i64 t)) (J 0)) (J 1)) (J 2)) (J 3)) (J 4))) (.node (.node (.node (.node (.node (.node (.leaf (.int .i64 f)) (J 0)) (J 1)) (J 2)) (J 3)) (J 4)) (.node (.node (.node (.node (.node (.leaf (.int .i64 n)) (J 0)) (J 1)) (J 2)) (J 3)) (J 4)))), (OO 7)⟩ (by kernel_rfl) (by kernel_rfl) ?_
    repeat' (first
      | refine allProp_T ?_
      | exact trivial
      | (refine URun.id ?_; first
          | refine URun.nil ?_
          | refine URun.many tabs2 rfl rfl (by kernel_rfl) ?_ ?_
          | refine URun.same tabs2 rfl rfl rfl ?_
          | refine URun.same2 tabs2 rfl rfl rfl ?_
          | refine URun.yes tabs2 rfl rfl (by omega) rfl ?_
          | refine URun.no tabs2 rfl rfl (by omega) rfl ?_
          | refine URun.split tabs2 rfl rfl rfl rfl (fun h => ?_) (fun h => ?_))
      | (refine TRun.id ?_; first
          | refine TRun.nil ?_
          | refine TRun.many rfl rfl (by kernel_rfl) ?_ ?_
          | refine TRun.same rfl rfl rfl ?_
          | refine TRun.same2 rfl rfl rfl ?_
          | refine TRun.yes rfl rfl (by omega) rfl ?_
          | refine TRun.no rfl rfl (by omega) rfl ?_
          | refine TRun.split rfl rfl rfl rfl (fun h => ?_) (fun h => ?_))
      | (refine HoldsT.id ?_; first
          | refine HoldsT.seq ?_
          | refine HoldsT.regionU ?_
          | refine HoldsT.drawn tabs2 ?_
          | refine HoldsT.yes rfl ?_
          | refine HoldsT.no rfl ?_
          | refine HoldsT.cond rfl (fun h => ?_) (fun h => ?_)
          | refine HoldsT.block ?_
          | refine HoldsT.ret ?_
          | refine HoldsT.skip ?_
          | refine HoldsT.exit ?_)
      | (refine okTr_intro ?_; kernel_rfl)
      | exact absurd rfl h
      | refine allProp_C ?_ ?_
      | refine And.intro ?_ ?_
      | omega
      | (show _ < List.length _; omega)
      | exact rowlen_intro rfl
      | exact lenEq_intro rfl
      | exact Nat.le_of_ble_eq_true rfl
      | (simp only [AV.rowlenD, AV.rowlen, AV.ncells, mulSz, toN, Option.map_some, Option.map_none, cutL, List.length_take, List.length_drop, List.length_append, List.length_cons, List.length_nil, List.length_set, Option.some.injEq, Int.reduceToNat] <;> omega))
    generalize min n 1024 = m at *
    have k37 := q37 32 (4 * m) ⟨by omega, by omega⟩ (by omega) (by omega)
    have k37 : Pure Tryd.prog 37 [.int .u8 32, .int .i64 (4 * m)] (.str (List.replicate (4 * m).toNat 32)) := k37
    have hrl : (List.replicate (4 * m).toNat (32 : UInt8)).length = (4 * m).toNat := List.length_replicate
    refine HoldsT.loop (fun x : Int × List (List UInt8) => sh27lo ls x.2 f t m x.1) (fun x => (t + 1 - x.1).toNat) (fun x => f ≤ x.1 ∧ x.1 ≤ t + 1 ∧ x.2 = eachL (fun i => shF true (ls.getD i.toNat []) m) f (x.1 - f).toNat) (f, []) ?_ ?_ (fun _ => by kernel_rfl) ?_
    · refine (WeakT.canon 12 83 9 (.slS []) rfl rfl rfl (by kernel_rfl) rfl).trans ?_
      refine WeakT.of ?_ ?_ (by kernel_rfl)
      · repeat' (first | exact TTle.junk _ _ | exact TTle.same _ | refine TTle.node ?_ ?_ | refine TTle.leaf ?_ | exact AVle.junk _ | exact AVle.rfl' rfl | exact AVle.nilS | exact AVle.nilB)
      · repeat' (first | exact OOle.none _ _ | exact OOle.same _ | refine OOle.node ?_ ?_ | exact OOle.leaf _ | exact OOle.gone _)
    · exact ⟨by simp, by simp only; omega, by simp [eachL]⟩
    · intro x hx
      obtain ⟨i, out⟩ := x
      obtain ⟨g1, g2, g3⟩ := hx
      simp only at g1 g2 g3
      have hli := hB i.toNat
      have hfi : f + ((i - f).toNat : Int) = i := by omega
      have hol : out.length = (i - f).toNat := by rw [g3]; exact eachL_length _ _ _
      have hlen : out.length + 1 = (eachL (fun i => shF true (ls.getD i.toNat []) m) f ((i - f).toNat + 1)).length := by rw [eachL_length, hol]
      show HoldsT Tryd.prog _ (sh27lo ls out f t m i) _
      repeat' (first
        | refine allProp_T ?_
        | exact trivial
        | (refine URun.id ?_; first
            | refine URun.nil ?_
            | refine URun.many tabs2 rfl rfl (by kernel_rfl) ?_ ?_
            | (refine URun.toCall 37 rfl ?_; first
              | refine URun.call tabs2 rfl rfl rfl rfl k37 rfl rfl ?_ rfl ?_)
            | (refine URun.toCall 35 rfl ?_; first
              | refine URun.call tabs2 rfl rfl rfl rfl (k77 _) rfl rfl ?_ rfl ?_)
            | refine URun.same tabs2 rfl rfl rfl ?_
            | refine URun.same2 tabs2 rfl rfl rfl ?_
            | refine URun.yes tabs2 rfl rfl (by omega) rfl ?_
            | refine URun.no tabs2 rfl rfl (by omega) rfl ?_
            | refine URun.split tabs2 rfl rfl rfl rfl (fun h => ?_) (fun h => ?_))
        | (refine TRun.id ?_; first
            | refine TRun.nil ?_
            | refine TRun.many rfl rfl (by kernel_rfl) ?_ ?_
            | (refine TRun.toCall 37 rfl ?_; first
              | refine TRun.call rfl rfl rfl rfl k37 rfl rfl ?_ rfl ?_)
            | (refine TRun.toCall 35 rfl ?_; first
              | refine TRun.call rfl rfl rfl rfl (k77 _) rfl rfl ?_ rfl ?_)
            | refine TRun.same rfl rfl rfl ?_
            | refine TRun.same2 rfl rfl rfl ?_
            | refine TRun.yes rfl rfl (by omega) rfl ?_
            | refine TRun.no rfl rfl (by omega) rfl ?_
            | refine TRun.split rfl rfl rfl rfl (fun h => ?_) (fun h => ?_))
        | (refine HoldsT.id ?_; first
            | refine HoldsT.seq ?_
            | refine HoldsT.regionU ?_
            | refine HoldsT.drawn tabs2 ?_
            | refine HoldsT.yes rfl ?_
            | refine HoldsT.no rfl ?_
            | refine HoldsT.cond rfl (fun h => ?_) (fun h => ?_)
            | refine HoldsT.block ?_
            | refine HoldsT.ret ?_
            | refine HoldsT.skip ?_
            | refine HoldsT.exit ?_)
        | (refine okTr_intro ?_; kernel_rfl)
        | exact absurd rfl h
        | refine allProp_C ?_ ?_
        | refine And.intro ?_ ?_
        | omega
        | (show _ < List.length _; omega)
        | exact rowlen_intro rfl
        | exact lenEq_intro rfl
        | exact Nat.le_of_ble_eq_true rfl
        | (simp only [AV.rowlenD, AV.rowlen, AV.ncells, mulSz, toN, Option.map_some, Option.map_none, cutL, List.length_take, List.length_drop, List.length_append, List.length_cons, List.length_nil, List.length_set, Option.some.injEq, Int.reduceToNat] <;> omega))
      rotate_right
      · refine FinC.te (y := .tup [.agg [.int .i64 _, .slS _, .slS _], .bool _]) rfl rfl ⟨⟨trivial, trivial, trivial, trivial⟩, trivial, trivial⟩ ?_
        rw [g3, show i - f = t - f + 1 by omega]; rfl
      all_goals
        refine HoldsT.loop (fun k : Int => sh27li ls out f t m i ((ls.getD i.toNat []).drop k.toNat) k) (fun k => (m * 4 - k).toNat) (fun k => 0 ≤ k ∧ k ≤ m * 4 ∧ k ≤ (ls.getD i.toNat []).length ∧ ((ls.getD i.toNat []).take k.toNat).all blankB = true) 0 ?_ ?_ (fun _ => by kernel_rfl) ?_
        · refine WeakT.of ?_ ?_ (by kernel_rfl)
          · repeat' (first | exact TTle.junk _ _ | exact TTle.same _ | refine TTle.node ?_ ?_ | refine TTle.leaf ?_ | exact AVle.junk _ | exact AVle.rfl' rfl | exact AVle.nilS | exact AVle.nilB)
          · repeat' (first | exact OOle.none _ _ | exact OOle.same _ | refine OOle.node ?_ ?_ | exact OOle.leaf _ | exact OOle.gone _)
        · exact ⟨by simp, by omega, by simp, rfl⟩
        · intro k hk
          obtain ⟨d1, d2, d3, d4⟩ := hk
          have hdl : ((ls.getD i.toNat []).drop k.toNat).length = (ls.getD i.toNat []).length - k.toNat := List.length_drop
          have hdp : (ls.getD i.toNat []).drop k.toNat ≠ [] → 0 < ((ls.getD i.toNat []).drop k.toNat).length := List.length_pos_iff.2
          have hdg : ((ls.getD i.toNat []).drop k.toNat).getD 0 0 = (ls.getD i.toNat []).getD k.toNat 0 := by simp [List.getD_eq_getElem?_getD]
          have hdc : cutL ((ls.getD i.toNat []).drop k.toNat) (some 1) none = (ls.getD i.toNat []).drop (k + 1).toNat := by
            simp only [cutL]; rw [List.drop_drop, show (k + 1).toNat = k.toNat + 1 by omega]
          have hdz : (ls.getD i.toNat []).drop k.toNat = [] → (ls.getD i.toNat []).length ≤ k.toNat := fun h => by
            rw [h, List.length_nil] at hdl; omega
          show HoldsT Tryd.prog _ (sh27li ls out f t m i ((ls.getD i.toNat []).drop k.toNat) k) _
          repeat' (first
            | refine allProp_T ?_
            | exact trivial
            | (refine URun.id ?_; first
                | refine URun.nil ?_
                | refine URun.many tabs2 rfl rfl (by kernel_rfl) ?_ ?_
                | (refine URun.toCall 22 rfl ?_; first
                  | refine URun.call tabs2 rfl rfl rfl rfl (p73 _) rfl rfl ?_ rfl ?_)
                | refine URun.same tabs2 rfl rfl rfl ?_
                | refine URun.same2 tabs2 rfl rfl rfl ?_
                | refine URun.split tabs2 rfl rfl rfl rfl (fun h => ?_) (fun h => ?_))
            | (refine TRun.id ?_; first
                | refine TRun.nil ?_
                | refine TRun.many rfl rfl (by kernel_rfl) ?_ ?_
                | (refine TRun.toCall 22 rfl ?_; first
                  | refine TRun.call rfl rfl rfl rfl (p73 _) rfl rfl ?_ rfl ?_)
                | refine TRun.same rfl rfl rfl ?_
                | refine TRun.same2 rfl rfl rfl ?_
                | refine TRun.split rfl rfl rfl rfl (fun h => ?_) (fun h => ?_))
            | (refine HoldsT.id ?_; first
                | refine HoldsT.seq ?_
                | refine HoldsT.regionU ?_
                | refine HoldsT.drawn tabs2 ?_
                | refine HoldsT.yes rfl ?_
                | refine HoldsT.no rfl ?_
                | refine HoldsT.cond rfl (fun h => ?_) (fun h => ?_)
                | refine HoldsT.block ?_
                | refine HoldsT.ret ?_
                | refine HoldsT.skip ?_
                | refine HoldsT.exit ?_)
            | (refine okTr_intro ?_; kernel_rfl)
            | exact absurd rfl h
            | (have q1 := hdp ‹_›; omega)
            | exact u8_in _
            | refine allProp_C ?_ ?_
            | refine And.intro ?_ ?_
            | omega
            | (show _ < List.length _; omega)
            | exact rowlen_intro rfl
            | exact lenEq_intro rfl
            | exact Nat.le_of_ble_eq_true rfl
            | (simp only [AV.rowlenD, AV.rowlen, AV.ncells, mulSz, toN, Option.map_some, Option.map_none, cutL, List.length_take, List.length_drop, List.length_append, List.length_cons, List.length_nil, List.length_set, Option.some.injEq, Int.reduceToNat] <;> omega))
          all_goals first
            | (have hb : ofK (((ls.getD i.toNat []).getD k.toNat 0).toNat : Int) = 0 := by rw [← hdg]; assumption
               have q1 := hdp ‹_›
               refine ⟨k + 1, ⟨by omega, by omega, by omega, by omega, ?_⟩, ?_⟩
               · rw [show (k + 1).toNat = k.toNat + 1 by omega]; exact allb_take d4 (by omega) hb
               · refine WeakT.of ?_ ?_ (by kernel_rfl)
                 · repeat' (first | exact TTle.junk _ _ | exact TTle.same _ | refine TTle.node ?_ ?_ | refine TTle.leaf ?_ | exact AVle.junk _ | exact AVle.rfl' rfl | exact AVle.nilS | exact AVle.nilB | exact AVle.rfl' (congrArg AV.str hdc))
                 · repeat' (first | exact OOle.none _ _ | exact OOle.same _ | refine OOle.node ?_ ?_ | exact OOle.leaf _ | exact OOle.gone _))
            | (have hrow : (ls.getD i.toNat []).drop k.toNat = shF true (ls.getD i.toNat []) m := by
                 have q2 := lead_le (ls.getD i.toNat [])
                 have q3 := lead_ge d4 (by omega)
                 show _ = (ls.getD i.toNat []).drop (min (leadL (ls.getD i.toNat [])) (m * 4).toNat)
                 congr 1
                 first
                   | omega
                   | (have q4 := hdz (Classical.not_not.1 ‹¬ (ls.getD i.toNat []).drop k.toNat ≠ []›)
                      have q5 := lead_of_all d4 q4
                      omega)
                   | (have hb : ¬ ofK (((ls.getD i.toNat []).getD k.toNat 0).toNat : Int) = 0 := by rw [← hdg]; assumption
                      have q1 := hdp ‹_›
                      have q4 := leadL_at d4 (by omega) hb
                      omega)
               have hnew : out ++ [(ls.getD i.toNat []).drop k.toNat] = eachL (fun i => shF true (ls.getD i.toNat []) m) f ((i - f).toNat + 1) := by rw [hrow, eachL, ← g3, hfi]
               refine ⟨(i + 1, eachL (fun i => shF true (ls.getD i.toNat []) m) f ((i - f).toNat + 1)), ⟨by simp only; omega, by simp only; omega, by simp only; omega, by simp only; rw [show (i + 1 - f).toNat = (i - f).toNat + 1 by omega]⟩, ?_⟩
               refine WeakT.of ?_ ?_ (by kernel_rfl)
               · repeat' (first | exact TTle.junk _ _ | exact TTle.same _ | refine TTle.node ?_ ?_ | refine TTle.leaf ?_ | exact AVle.junk _ | exact AVle.rfl' rfl | exact AVle.rfl' (congrArg (AV.own 83) hlen))
               · repeat' (first | exact OOle.none _ _ | exact OOle.same _ | refine OOle.node ?_ ?_ | exact OOle.leaf _ | exact OOle.eq (congrArg (fun z => some (Obj.mk true true (.slS z) 9)) hnew) | exact OOle.gone _))
  · have e : shiftR ls f t n true = chNo := if_neg hg
    rw [e]
    refine Pure.ofT tab2_ok Tryd.func27 rfl rfl [.cell 10 31, .tmp 11] rfl (by decide) rfl ⟨91, 7, (.node (.node (.node (.node (.node (.node (.node (.leaf (.slS ls)) (J 0)) (J 1)) (J 2)) (J 3)) (.node (.node (.node (.node (.leaf (.bool true)) (J 0)) (J 1)) (J 2)) (J 3))) (.node (.node (.node (.node (.node (.leaf (.int .i64 t)) (J 0)) (J 1)) (J 2)) (J 3)) (J 4))) (.node (.node (.node (.node (.node (.node (.leaf (.int .i64 f)) (J 0)) (J 1)) (J 2)) (J 3)) (J 4)) (.node (.node (.node (.node (.node (.leaf (.int .i64 n)) (J 0)) (J 1)) (J 2)) (J 3)) (J 4)))), (OO 7)⟩ (by kernel_rfl) (by kernel_rfl) ?_
    repeat' (first
      | refine allProp_T ?_
      | exact trivial
      | (refine URun.id ?_; first
          | refine URun.nil ?_
          | refine URun.many tabs2 rfl rfl (by kernel_rfl) ?_ ?_
          | (refine URun.toCall 36 rfl ?_; first
            | refine URun.call tabs2 rfl rfl rfl rfl q36 rfl rfl ?_ rfl ?_)
          | refine URun.same tabs2 rfl rfl rfl ?_
          | refine URun.same2 tabs2 rfl rfl rfl ?_
          | refine URun.split tabs2 rfl rfl rfl rfl (fun h => ?_) (fun h => ?_))
      | (refine TRun.id ?_; first
          | refine TRun.nil ?_
          | refine TRun.many rfl rfl (by kernel_rfl) ?_ ?_
          | (refine TRun.toCall 36 rfl ?_; first
            | refine TRun.call rfl rfl rfl rfl q36 rfl rfl ?_ rfl ?_)
          | refine TRun.same rfl rfl rfl ?_
          | refine TRun.same2 rfl rfl rfl ?_
          | refine TRun.split rfl rfl rfl rfl (fun h => ?_) (fun h => ?_))
      | (refine HoldsT.id ?_; first
          | refine HoldsT.seq ?_
          | refine HoldsT.regionU ?_
          | refine HoldsT.drawn tabs2 ?_
          | refine HoldsT.yes rfl ?_
          | refine HoldsT.no rfl ?_
          | refine HoldsT.cond rfl (fun h => ?_) (fun h => ?_)
          | refine HoldsT.block ?_
          | refine HoldsT.ret ?_
          | refine HoldsT.skip ?_
          | refine HoldsT.exit ?_)
      | (refine okTr_intro ?_; kernel_rfl)
      | exact absurd rfl h
      | refine allProp_C ?_ ?_
      | refine And.intro ?_ ?_
      | omega
      | (show _ < List.length _; omega)
      | exact rowlen_intro rfl
      | exact lenEq_intro rfl
      | exact Nat.le_of_ble_eq_true rfl
      | (simp only [AV.rowlenD, AV.rowlen, AV.ncells, mulSz, toN, Option.map_some, Option.map_none, cutL, List.length_take, List.length_drop, List.length_append, List.length_cons, List.length_nil, List.length_set, Option.some.injEq, Int.reduceToNat] <;> omega))
    all_goals first
      | exact FinC.t (y := .tup [.agg [.int .i64 _, .nilsl, .nilsl], .bool _]) rfl rfl ⟨⟨trivial, trivial, trivial, trivial⟩, trivial, trivial⟩ noLeC
      | (exfalso; omega)

end Go.Proofs.YtefbgdnobnemkaaDoor.AM
