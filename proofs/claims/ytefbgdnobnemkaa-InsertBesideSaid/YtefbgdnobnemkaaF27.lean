/-
  Blanks; places that are brought to lines.
-/
import Derived.Test.YtefbgdnobnemkaaF26
set_option linter.unusedSimpArgs false
set_option linter.unusedVariables false
set_option linter.unusedSectionVars false
namespace Go.Proofs.Ytefbgdnobnemkaa.AM
open Go Go.RowKit

/-- A byte's class, where only blanks tell. -/
def ofK (k : Int) : Int := if k = 32 ∨ k = 9 then 0 else 1
def blankB (b : UInt8) : Bool := decide (ofK (b.toNat : Int) = 0)
/-- How many blanks a line begins with. -/
def leadL (s : List UInt8) : Nat := (s.takeWhile blankB).length
def firstL (s : List UInt8) : Int := if (leadL s : Int) < s.length then leadL s else max ((s.length : Int) - 1) 0
theorem allb_take {s : List UInt8} {i : Nat} (h : (s.take i).all blankB = true) (hi : i < s.length) (hb : ofK ((s.getD i 0).toNat : Int) = 0) : (s.take (i + 1)).all blankB = true := by
  rw [List.take_add_one, List.all_append, h, List.getElem?_eq_getElem hi]
  simp only [Option.toList, List.all_cons, List.all_nil, Bool.and_true, Bool.true_and, blankB, decide_eq_true_eq]
  simpa [hi] using hb
theorem leadL_all {s : List UInt8} (h : s.all blankB = true) : leadL s = s.length := by
  unfold leadL
  congr 1
  have := List.takeWhile_append_of_pos (p := blankB) (l₁ := s) (l₂ := []) (fun a ha => List.all_eq_true.1 h a ha)
  simpa using this
theorem leadL_at {s : List UInt8} {i : Nat} (h : (s.take i).all blankB = true) (hi : i < s.length) (hb : ¬ ofK ((s.getD i 0).toNat : Int) = 0) : leadL s = i := by
  unfold leadL
  have e : s = s.take i ++ s[i] :: s.drop (i + 1) := by rw [← List.drop_eq_getElem_cons hi, List.take_append_drop]
  have hb' : ¬ blankB s[i] = true := by
    unfold blankB
    simpa [hi] using hb
  rw [e, List.takeWhile_append_of_pos (fun a ha => List.all_eq_true.1 h a ha), List.takeWhile_cons_of_neg hb', List.append_nil, List.length_take]
  omega
theorem first_at {s : List UInt8} {i : Int} (h0 : 0 ≤ i) (h : (s.take i.toNat).all blankB = true) (hi : i < s.length) (hb : ¬ ofK ((s.getD i.toNat 0).toNat : Int) = 0) : firstL s = i := by
  have e := leadL_at h (by omega) hb
  unfold firstL
  rw [e, if_pos (by omega)]; omega
theorem first_all {s : List UInt8} {i : Int} (h : (s.take i.toNat).all blankB = true) (hi : (s.length : Int) ≤ i) : firstL s = max ((s.length : Int) - 1) 0 := by
  rw [List.take_of_length_le (by omega)] at h
  unfold firstL
  rw [leadL_all h, if_neg (by omega)]

set_option maxRecDepth 10000 in
set_option maxHeartbeats 8000000 in
theorem p116 (k : Int) : Pure Try.prog 116 [.int .u8 k, .bool true] (.int .i64 (ofK k)) := by
  refine Pure.ofT tab2_ok Try.func116 rfl rfl [.tmp 4] rfl (by decide) rfl ⟨37, 6, (.node (.node (.node (.node (.node (.node (.leaf (.int .u8 k)) (J 0)) (J 1)) (J 2)) (J 3)) (J 4)) (.node (.node (.node (.node (.node (.leaf (.bool true)) (J 0)) (J 1)) (J 2)) (J 3)) (J 4))), (OO 6)⟩ (by kernel_rfl) (by kernel_rfl) ?_
  repeat' (first
    | refine allProp_T ?_
    | exact trivial
    | (refine URun.id ?_; first
        | refine URun.nil ?_
        | refine URun.many tabs2 rfl rfl (by kernel_rfl) ?_ ?_
        | refine URun.same tabs2 rfl rfl rfl ?_
        | refine URun.same2 tabs2 rfl rfl rfl ?_
        | refine URun.split tabs2 rfl rfl rfl rfl (fun h => ?_) (fun h => ?_))
    | (refine TRun.id ?_; first
        | refine TRun.nil ?_
        | refine TRun.many rfl rfl (by kernel_rfl) ?_ ?_
        | refine TRun.same rfl rfl rfl ?_
        | refine TRun.same2 rfl rfl rfl ?_
        | refine TRun.split rfl rfl rfl rfl (fun h => ?_) (fun h => ?_))
    | (refine HoldsT.id ?_; first
        | refine HoldsT.seq ?_
        | refine HoldsT.regionU ?_
        | refine HoldsT.drawn tabs2 ?_
        | refine HoldsT.yes rfl ?_
        | refine HoldsT.no rfl ?_
        | refine HoldsT.cond rfl (fun h => ?_) (fun h => ?_)
        | refine HoldsT.block ?_
        | refine HoldsT.ret ?_
        | refine HoldsT.skip ?_
        | refine HoldsT.exit ?_)
    | (refine okTr_intro ?_; kernel_rfl)
    | exact absurd rfl h
    | refine allProp_C ?_ ?_
    | refine And.intro ?_ ?_
    | omega
    | (show _ < List.length _; omega)
    | exact rowlen_intro rfl
    | exact lenEq_intro rfl
    | exact Nat.le_of_ble_eq_true rfl
    | (simp only [AV.rowlenD, AV.rowlen, AV.ncells, mulSz, toN, Option.map_some, Option.map_none, cutL, List.length_take, List.length_drop, List.length_append, List.length_cons, List.length_nil, List.length_set, Option.some.injEq, Int.reduceToNat] <;> omega))
  all_goals refine FinC.te (y := .int .i64 _) rfl rfl trivial (congrArg (AV.int .i64) ?_)
  all_goals (unfold ofK; first | exact (if_pos (by omega)).symm | exact (if_neg (by omega)).symm)

set_option maxRecDepth 10000 in
set_option maxHeartbeats 8000000 in
theorem p73 (k : Int) : Pure Try.prog 73 [.int .u8 k, .bool true] (.int .i64 (ofK k)) := by
  refine Pure.ofT tab2_ok Try.func73 rfl rfl [.tmp 4] rfl (by decide) rfl ⟨46, 6, (.node (.node (.node (.node (.node (.node (.leaf (.int .u8 k)) (J 0)) (J 1)) (J 2)) (J 3)) (J 4)) (.node (.node (.node (.node (.node (.leaf (.bool true)) (J 0)) (J 1)) (J 2)) (J 3)) (J 4))), (OO 6)⟩ (by kernel_rfl) (by kernel_rfl) ?_
  repeat' (first
    | refine allProp_T ?_
    | exact trivial
    | (refine URun.id ?_; first
        | refine URun.nil ?_
        | refine URun.many tabs2 rfl rfl (by kernel_rfl) ?_ ?_
        | refine URun.same tabs2 rfl rfl rfl ?_
        | refine URun.same2 tabs2 rfl rfl rfl ?_
        | refine URun.split tabs2 rfl rfl rfl rfl (fun h => ?_) (fun h => ?_))
    | (refine TRun.id ?_; first
        | refine TRun.nil ?_
        | refine TRun.many rfl rfl (by kernel_rfl) ?_ ?_
        | refine TRun.same rfl rfl rfl ?_
        | refine TRun.same2 rfl rfl rfl ?_
        | refine TRun.split rfl rfl rfl rfl (fun h => ?_) (fun h => ?_))
    | (refine HoldsT.id ?_; first
        | refine HoldsT.seq ?_
        | refine HoldsT.regionU ?_
        | refine HoldsT.drawn tabs2 ?_
        | refine HoldsT.yes rfl ?_
        | refine HoldsT.no rfl ?_
        | refine HoldsT.cond rfl (fun h => ?_) (fun h => ?_)
        | refine HoldsT.block ?_
        | refine HoldsT.ret ?_
        | refine HoldsT.skip ?_
        | refine HoldsT.exit ?_)
    | (refine okTr_intro ?_; kernel_rfl)
    | exact absurd rfl h
    | refine allProp_C ?_ ?_
    | refine And.intro ?_ ?_
    | omega
    | (show _ < List.length _; omega)
    | exact rowlen_intro rfl
    | exact lenEq_intro rfl
    | exact Nat.le_of_ble_eq_true rfl
    | (simp only [AV.rowlenD, AV.rowlen, AV.ncells, mulSz, toN, Option.map_some, Option.map_none, cutL, List.length_take, List.length_drop, List.length_append, List.length_cons, List.length_nil, List.length_set, Option.some.injEq, Int.reduceToNat] <;> omega))
  all_goals refine FinC.te (y := .int .i64 _) rfl rfl trivial (congrArg (AV.int .i64) ?_)
  all_goals (unfold ofK; first | exact (if_pos (by omega)).symm | exact (if_neg (by omega)).symm)

def sh93 (s : List UInt8) (i : Int) : TS := ⟨20, 5, (.node (.node (.node (.node (.node (.leaf (.str s)) (J 0)) (J 1)) (J 2)) (.node (J 2) (.node (.node (.leaf (.int .i64 i)) (J 0)) (J 1)))) (.node (.node (J 2) (.node (.node (.leaf (.int .i64 (s.length : Int))) (J 0)) (J 1))) (J 3))), (OO 5)⟩
set_option maxRecDepth 10000 in
set_option maxHeartbeats 8000000 in
theorem p93 (s : List UInt8) (hl : s.length ≤ 1000000000000) : Pure Try.prog 93 [.str s] (.int .i64 (firstL s)) := by
  refine Pure.ofT tab2_ok Try.func93 rfl rfl [.tmp 2] rfl (by decide) rfl ⟨20, 5, (.node (.node (.node (.node (.node (.leaf (.str s)) (J 0)) (J 1)) (J 2)) (J 3)) (J 4)), (OO 5)⟩ (by kernel_rfl) (by kernel_rfl) ?_
  repeat' (first
    | refine allProp_T ?_
    | exact trivial
    | (refine URun.id ?_; first
        | refine URun.nil ?_
        | refine URun.many tabs2 rfl rfl (by kernel_rfl) ?_ ?_
        | refine URun.same tabs2 rfl rfl rfl ?_
        | refine URun.same2 tabs2 rfl rfl rfl ?_
        | refine URun.split tabs2 rfl rfl rfl rfl (fun h => ?_) (fun h => ?_))
    | (refine TRun.id ?_; first
        | refine TRun.nil ?_
        | refine TRun.many rfl rfl (by kernel_rfl) ?_ ?_
        | refine TRun.same rfl rfl rfl ?_
        | refine TRun.same2 rfl rfl rfl ?_
        | refine TRun.split rfl rfl rfl rfl (fun h => ?_) (fun h => ?_))
    | (refine HoldsT.id ?_; first
        | refine HoldsT.seq ?_
        | refine HoldsT.regionU ?_
        | refine HoldsT.drawn tabs2 ?_
        | refine HoldsT.yes rfl ?_
        | refine HoldsT.no rfl ?_
        | refine HoldsT.cond rfl (fun h => ?_) (fun h => ?_)
        | refine HoldsT.block ?_
        | refine HoldsT.ret ?_
        | refine HoldsT.skip ?_
        | refine HoldsT.exit ?_)
    | (refine okTr_intro ?_; kernel_rfl)
    | exact absurd rfl h
    | refine allProp_C ?_ ?_
    | refine And.intro ?_ ?_
    | omega
    | (show _ < List.length _; omega)
    | exact rowlen_intro rfl
    | exact lenEq_intro rfl
    | exact Nat.le_of_ble_eq_true rfl
    | (simp only [AV.rowlenD, AV.rowlen, AV.ncells, mulSz, toN, Option.map_some, Option.map_none, cutL, List.length_take, List.length_drop, List.length_append, List.length_cons, List.length_nil, List.length_set, Option.some.injEq, Int.reduceToNat] <;> omega))
  refine HoldsT.loop (fun i : Int => sh93 s i) (fun i => (s.length - i).toNat) (fun i => 0 ≤ i ∧ i ≤ s.length ∧ (s.take i.toNat).all blankB = true) 0 ?_ ?_ (fun _ => by kernel_rfl) ?_
  · refine WeakT.of ?_ ?_ (by kernel_rfl)
    · repeat' (first | exact TTle.junk _ _ | exact TTle.same _ | refine TTle.node ?_ ?_ | refine TTle.leaf ?_ | exact AVle.junk _ | exact AVle.rfl' rfl | exact AVle.nilS | exact AVle.nilB)
    · repeat' (first | exact OOle.none _ _ | exact OOle.same _ | refine OOle.node ?_ ?_ | exact OOle.leaf _ | exact OOle.gone _)
  · exact ⟨by simp, by simp, rfl⟩
  · intro i hi
    obtain ⟨h1, h2, h3⟩ := hi
    show HoldsT Try.prog _ (sh93 s i) _
    repeat' (first
      | refine allProp_T ?_
      | exact trivial
      | (refine URun.id ?_; first
          | refine URun.nil ?_
          | refine URun.many tabs2 rfl rfl (by kernel_rfl) ?_ ?_
          | (refine URun.toCall 116 rfl ?_; first
            | refine URun.call tabs2 rfl rfl rfl rfl (p116 _) rfl rfl ?_ rfl ?_)
          | refine URun.same tabs2 rfl rfl rfl ?_
          | refine URun.same2 tabs2 rfl rfl rfl ?_
          | refine URun.split tabs2 rfl rfl rfl rfl (fun h => ?_) (fun h => ?_))
      | (refine TRun.id ?_; first
          | refine TRun.nil ?_
          | refine TRun.many rfl rfl (by kernel_rfl) ?_ ?_
          | (refine TRun.toCall 116 rfl ?_; first
            | refine TRun.call rfl rfl rfl rfl (p116 _) rfl rfl ?_ rfl ?_)
          | refine TRun.same rfl rfl rfl ?_
          | refine TRun.same2 rfl rfl rfl ?_
          | refine TRun.split rfl rfl rfl rfl (fun h => ?_) (fun h => ?_))
      | (refine HoldsT.id ?_; first
          | refine HoldsT.seq ?_
          | refine HoldsT.regionU ?_
          | refine HoldsT.drawn tabs2 ?_
          | refine HoldsT.yes rfl ?_
          | refine HoldsT.no rfl ?_
          | refine HoldsT.cond rfl (fun h => ?_) (fun h => ?_)
          | refine HoldsT.block ?_
          | refine HoldsT.ret ?_
          | refine HoldsT.skip ?_
          | refine HoldsT.exit ?_)
      | (refine okTr_intro ?_; kernel_rfl)
      | exact absurd rfl h
      | refine allProp_C ?_ ?_
      | refine And.intro ?_ ?_
      | omega
      | (show _ < List.length _; omega)
      | exact rowlen_intro rfl
      | exact lenEq_intro rfl
      | exact Nat.le_of_ble_eq_true rfl
      | (simp only [AV.rowlenD, AV.rowlen, AV.ncells, mulSz, toN, Option.map_some, Option.map_none, cutL, List.length_take, List.length_drop, List.length_append, List.length_cons, List.length_nil, List.length_set, Option.some.injEq, Int.reduceToNat] <;> omega))
    all_goals first
      | (refine ⟨i + 1, ⟨by omega, by omega, by omega, ?_⟩, ?_⟩
         · rw [toNat_succ h1]; exact allb_take h3 (by omega) (Classical.not_not.1 ‹_›)
         · refine WeakT.of ?_ ?_ (by kernel_rfl)
           · repeat' (first | exact TTle.junk _ _ | exact TTle.same _ | refine TTle.node ?_ ?_ | refine TTle.leaf ?_ | exact AVle.junk _ | exact AVle.rfl' rfl | exact AVle.nilS | exact AVle.nilB)
           · repeat' (first | exact OOle.none _ _ | exact OOle.same _ | refine OOle.node ?_ ?_ | exact OOle.leaf _ | exact OOle.gone _))
      | (refine FinC.te (y := .int .i64 _) rfl rfl trivial (congrArg (AV.int .i64) ?_)
         first | exact (first_at h1 h3 (by omega) ‹_›).symm | exact (first_all h3 (by omega)).symm)

def sh50 (s : List UInt8) (i : Int) : TS := ⟨20, 5, (.node (.node (.node (.node (.node (.leaf (.str s)) (J 0)) (J 1)) (J 2)) (J 3)) (.node (J 3) (.node (.node (.node (.leaf (.int .i64 i)) (J 0)) (J 1)) (J 2)))), (OO 5)⟩
set_option maxRecDepth 10000 in
set_option maxHeartbeats 8000000 in
theorem p50 (s : List UInt8) (hl : s.length ≤ 1000000000000) : Pure Try.prog 50 [.str s] (.int .i64 (firstL s)) := by
  refine Pure.ofT tab2_ok Try.func50 rfl rfl [.tmp 2] rfl (by decide) rfl ⟨20, 5, (.node (.node (.node (.node (.node (.leaf (.str s)) (J 0)) (J 1)) (J 2)) (J 3)) (J 4)), (OO 5)⟩ (by kernel_rfl) (by kernel_rfl) ?_
  repeat' (first
    | refine allProp_T ?_
    | exact trivial
    | (refine URun.id ?_; first
        | refine URun.nil ?_
        | refine URun.many tabs2 rfl rfl (by kernel_rfl) ?_ ?_
        | refine URun.same tabs2 rfl rfl rfl ?_
        | refine URun.same2 tabs2 rfl rfl rfl ?_
        | refine URun.split tabs2 rfl rfl rfl rfl (fun h => ?_) (fun h => ?_))
    | (refine TRun.id ?_; first
        | refine TRun.nil ?_
        | refine TRun.many rfl rfl (by kernel_rfl) ?_ ?_
        | refine TRun.same rfl rfl rfl ?_
        | refine TRun.same2 rfl rfl rfl ?_
        | refine TRun.split rfl rfl rfl rfl (fun h => ?_) (fun h => ?_))
    | (refine HoldsT.id ?_; first
        | refine HoldsT.seq ?_
        | refine HoldsT.regionU ?_
        | refine HoldsT.drawn tabs2 ?_
        | refine HoldsT.yes rfl ?_
        | refine HoldsT.no rfl ?_
        | refine HoldsT.cond rfl (fun h => ?_) (fun h => ?_)
        | refine HoldsT.block ?_
        | refine HoldsT.ret ?_
        | refine HoldsT.skip ?_
        | refine HoldsT.exit ?_)
    | (refine okTr_intro ?_; kernel_rfl)
    | exact absurd rfl h
    | refine allProp_C ?_ ?_
    | refine And.intro ?_ ?_
    | omega
    | (show _ < List.length _; omega)
    | exact rowlen_intro rfl
    | exact lenEq_intro rfl
    | exact Nat.le_of_ble_eq_true rfl
    | (simp only [AV.rowlenD, AV.rowlen, AV.ncells, mulSz, toN, Option.map_some, Option.map_none, cutL, List.length_take, List.length_drop, List.length_append, List.length_cons, List.length_nil, List.length_set, Option.some.injEq, Int.reduceToNat] <;> omega))
  refine HoldsT.loop (fun i : Int => sh50 s i) (fun i => (s.length - i).toNat) (fun i => 0 ≤ i ∧ i ≤ s.length ∧ (s.take i.toNat).all blankB = true) 0 ?_ ?_ (fun _ => by kernel_rfl) ?_
  · refine WeakT.of ?_ ?_ (by kernel_rfl)
    · repeat' (first | exact TTle.junk _ _ | exact TTle.same _ | refine TTle.node ?_ ?_ | refine TTle.leaf ?_ | exact AVle.junk _ | exact AVle.rfl' rfl | exact AVle.nilS | exact AVle.nilB)
    · repeat' (first | exact OOle.none _ _ | exact OOle.same _ | refine OOle.node ?_ ?_ | exact OOle.leaf _ | exact OOle.gone _)
  · exact ⟨by simp, by simp, rfl⟩
  · intro i hi
    obtain ⟨h1, h2, h3⟩ := hi
    show HoldsT Try.prog _ (sh50 s i) _
    repeat' (first
      | refine allProp_T ?_
      | exact trivial
      | (refine URun.id ?_; first
          | refine URun.nil ?_
          | refine URun.many tabs2 rfl rfl (by kernel_rfl) ?_ ?_
          | (refine URun.toCall 73 rfl ?_; first
            | refine URun.call tabs2 rfl rfl rfl rfl (p73 _) rfl rfl ?_ rfl ?_)
          | refine URun.same tabs2 rfl rfl rfl ?_
          | refine URun.same2 tabs2 rfl rfl rfl ?_
          | refine URun.split tabs2 rfl rfl rfl rfl (fun h => ?_) (fun h => ?_))
      | (refine TRun.id ?_; first
          | refine TRun.nil ?_
          | refine TRun.many rfl rfl (by kernel_rfl) ?_ ?_
          | (refine TRun.toCall 73 rfl ?_; first
            | refine TRun.call rfl rfl rfl rfl (p73 _) rfl rfl ?_ rfl ?_)
          | refine TRun.same rfl rfl rfl ?_
          | refine TRun.same2 rfl rfl rfl ?_
          | refine TRun.split rfl rfl rfl rfl (fun h => ?_) (fun h => ?_))
      | (refine HoldsT.id ?_; first
          | refine HoldsT.seq ?_
          | refine HoldsT.regionU ?_
          | refine HoldsT.drawn tabs2 ?_
          | refine HoldsT.yes rfl ?_
          | refine HoldsT.no rfl ?_
          | refine HoldsT.cond rfl (fun h => ?_) (fun h => ?_)
          | refine HoldsT.block ?_
          | refine HoldsT.ret ?_
          | refine HoldsT.skip ?_
          | refine HoldsT.exit ?_)
      | (refine okTr_intro ?_; kernel_rfl)
      | exact absurd rfl h
      | refine allProp_C ?_ ?_
      | refine And.intro ?_ ?_
      | omega
      | (show _ < List.length _; omega)
      | exact rowlen_intro rfl
      | exact lenEq_intro rfl
      | exact Nat.le_of_ble_eq_true rfl
      | (simp only [AV.rowlenD, AV.rowlen, AV.ncells, mulSz, toN, Option.map_some, Option.map_none, cutL, List.length_take, List.length_drop, List.length_append, List.length_cons, List.length_nil, List.length_set, Option.some.injEq, Int.reduceToNat] <;> omega))
    all_goals first
      | (refine ⟨i + 1, ⟨by omega, by omega, by omega, ?_⟩, ?_⟩
         · rw [toNat_succ h1]; exact allb_take h3 (by omega) (Classical.not_not.1 ‹_›)
         · refine WeakT.of ?_ ?_ (by kernel_rfl)
           · repeat' (first | exact TTle.junk _ _ | exact TTle.same _ | refine TTle.node ?_ ?_ | refine TTle.leaf ?_ | exact AVle.junk _ | exact AVle.rfl' rfl | exact AVle.nilS | exact AVle.nilB)
           · repeat' (first | exact OOle.none _ _ | exact OOle.same _ | refine OOle.node ?_ ?_ | exact OOle.leaf _ | exact OOle.gone _))
      | (refine FinC.te (y := .int .i64 _) rfl rfl trivial (congrArg (AV.int .i64) ?_)
         first | exact (first_at h1 h3 (by omega) ‹_›).symm | exact (first_all h3 (by omega)).symm)

def clL (ls : List (List UInt8)) (l : Int) : Int := min (max l 0) ((ls.length : Int) - 1)
def clC (ls : List (List UInt8)) (l c : Int) (p : Bool) : Int := min (max c 0) (match p with | true => ((ls.getD (clL ls l).toNat []).length : Int) | false => max (((ls.getD (clL ls l).toNat []).length : Int) - 1) 0)

set_option maxRecDepth 10000 in
set_option maxHeartbeats 8000000 in
theorem p72 (ls : List (List UInt8)) (l c : Int) (p : Bool) (hl : ls.length ≤ 1000000000) (hB : ∀ n : Nat, (ls.getD n []).length ≤ 1000000000000) (h0 : 0 < ls.length) : Pure Try.prog 72 [.slS ls, .agg [.int .i64 l, .int .i64 c], .bool p] (.agg [.int .i64 (clL ls l), .int .i64 (clC ls l c p)]) := by
  have hb := hB (min (max l 0) ((ls.length : Int) - 1)).toNat
  cases p with
  | false =>
    refine Pure.ofT tab2_ok Try.func72 rfl rfl [.cell 6 23] rfl (by decide) rfl ⟨38, 6, (.node (.node (.node (.node (.node (.node (.leaf (.slS ls)) (J 0)) (J 1)) (J 2)) (J 3)) (.node (.node (.node (.node (.leaf (.bool false)) (J 0)) (J 1)) (J 2)) (J 3))) (.node (.node (.node (.node (.node (.leaf (.agg [.int .i64 l, .int .i64 c])) (J 0)) (J 1)) (J 2)) (J 3)) (J 4))), (OO 6)⟩ (by kernel_rfl) (by kernel_rfl) ?_
    repeat' (first
      | refine allProp_T ?_
      | exact trivial
      | (refine URun.id ?_; first
          | refine URun.nil ?_
          | refine URun.many tabs2 rfl rfl (by kernel_rfl) ?_ ?_
          | refine URun.same tabs2 rfl rfl rfl ?_
          | refine URun.same2 tabs2 rfl rfl rfl ?_
          | refine URun.split tabs2 rfl rfl rfl rfl (fun h => ?_) (fun h => ?_))
      | (refine TRun.id ?_; first
          | refine TRun.nil ?_
          | refine TRun.many rfl rfl (by kernel_rfl) ?_ ?_
          | refine TRun.same rfl rfl rfl ?_
          | refine TRun.same2 rfl rfl rfl ?_
          | refine TRun.split rfl rfl rfl rfl (fun h => ?_) (fun h => ?_))
      | (refine HoldsT.id ?_; first
          | refine HoldsT.seq ?_
          | refine HoldsT.regionU ?_
          | refine HoldsT.drawn tabs2 ?_
          | refine HoldsT.yes rfl ?_
          | refine HoldsT.no rfl ?_
          | refine HoldsT.cond rfl (fun h => ?_) (fun h => ?_)
          | refine HoldsT.block ?_
          | refine HoldsT.ret ?_
          | refine HoldsT.skip ?_
          | refine HoldsT.exit ?_)
      | (refine okTr_intro ?_; kernel_rfl)
      | exact absurd rfl h
      | refine allProp_C ?_ ?_
      | refine And.intro ?_ ?_
      | omega
      | (show _ < List.length _; omega)
      | exact rowlen_intro rfl
      | exact lenEq_intro rfl
      | exact Nat.le_of_ble_eq_true rfl
      | (simp only [AV.rowlenD, AV.rowlen, AV.ncells, mulSz, toN, Option.map_some, Option.map_none, cutL, List.length_take, List.length_drop, List.length_append, List.length_cons, List.length_nil, List.length_set, Option.some.injEq, Int.reduceToNat] <;> omega))
    all_goals exact FinC.te (y := .agg [.int .i64 _, .int .i64 _]) rfl rfl ⟨trivial, trivial, trivial⟩ rfl
  | true =>
    refine Pure.ofT tab2_ok Try.func72 rfl rfl [.cell 6 23] rfl (by decide) rfl ⟨38, 6, (.node (.node (.node (.node (.node (.node (.leaf (.slS ls)) (J 0)) (J 1)) (J 2)) (J 3)) (.node (.node (.node (.node (.leaf (.bool true)) (J 0)) (J 1)) (J 2)) (J 3))) (.node (.node (.node (.node (.node (.leaf (.agg [.int .i64 l, .int .i64 c])) (J 0)) (J 1)) (J 2)) (J 3)) (J 4))), (OO 6)⟩ (by kernel_rfl) (by kernel_rfl) ?_
    repeat' (first
      | refine allProp_T ?_
      | exact trivial
      | (refine URun.id ?_; first
          | refine URun.nil ?_
          | refine URun.many tabs2 rfl rfl (by kernel_rfl) ?_ ?_
          | refine URun.same tabs2 rfl rfl rfl ?_
          | refine URun.same2 tabs2 rfl rfl rfl ?_
          | refine URun.split tabs2 rfl rfl rfl rfl (fun h => ?_) (fun h => ?_))
      | (refine TRun.id ?_; first
          | refine TRun.nil ?_
          | refine TRun.many rfl rfl (by kernel_rfl) ?_ ?_
          | refine TRun.same rfl rfl rfl ?_
          | refine TRun.same2 rfl rfl rfl ?_
          | refine TRun.split rfl rfl rfl rfl (fun h => ?_) (fun h => ?_))
      | (refine HoldsT.id ?_; first
          | refine HoldsT.seq ?_
          | refine HoldsT.regionU ?_
          | refine HoldsT.drawn tabs2 ?_
          | refine HoldsT.yes rfl ?_
          | refine HoldsT.no rfl ?_
          | refine HoldsT.cond rfl (fun h => ?_) (fun h => ?_)
          | refine HoldsT.block ?_
          | refine HoldsT.ret ?_
          | refine HoldsT.skip ?_
          | refine HoldsT.exit ?_)
      | (refine okTr_intro ?_; kernel_rfl)
      | exact absurd rfl h
      | refine allProp_C ?_ ?_
      | refine And.intro ?_ ?_
      | omega
      | (show _ < List.length _; omega)
      | exact rowlen_intro rfl
      | exact lenEq_intro rfl
      | exact Nat.le_of_ble_eq_true rfl
      | (simp only [AV.rowlenD, AV.rowlen, AV.ncells, mulSz, toN, Option.map_some, Option.map_none, cutL, List.length_take, List.length_drop, List.length_append, List.length_cons, List.length_nil, List.length_set, Option.some.injEq, Int.reduceToNat] <;> omega))
    all_goals exact FinC.te (y := .agg [.int .i64 _, .int .i64 _]) rfl rfl ⟨trivial, trivial, trivial⟩ rfl

set_option maxRecDepth 10000 in
set_option maxHeartbeats 8000000 in
theorem p49 (ls : List (List UInt8)) (l c : Int) (p : Bool) (hl : ls.length ≤ 1000000000) (hB : ∀ n : Nat, (ls.getD n []).length ≤ 1000000000000) (h0 : 0 < ls.length) : Pure Try.prog 49 [.slS ls, .agg [.int .i64 l, .int .i64 c], .bool p] (.agg [.int .i64 (clL ls l), .int .i64 (clC ls l c p)]) := by
  have hb := hB (min (max l 0) ((ls.length : Int) - 1)).toNat
  cases p with
  | false =>
    refine Pure.ofT tab2_ok Try.func49 rfl rfl [.cell 6 23] rfl (by decide) rfl ⟨37, 6, (.node (.node (.node (.node (.node (.node (.leaf (.slS ls)) (J 0)) (J 1)) (J 2)) (J 3)) (.node (.node (.node (.node (.leaf (.bool false)) (J 0)) (J 1)) (J 2)) (J 3))) (.node (.node (.node (.node (.node (.leaf (.agg [.int .i64 l, .int .i64 c])) (J 0)) (J 1)) (J 2)) (J 3)) (J 4))), (OO 6)⟩ (by kernel_rfl) (by kernel_rfl) ?_
    repeat' (first
      | refine allProp_T ?_
      | exact trivial
      | (refine URun.id ?_; first
          | refine URun.nil ?_
          | refine URun.many tabs2 rfl rfl (by kernel_rfl) ?_ ?_
          | refine URun.same tabs2 rfl rfl rfl ?_
          | refine URun.same2 tabs2 rfl rfl rfl ?_
          | refine URun.split tabs2 rfl rfl rfl rfl (fun h => ?_) (fun h => ?_))
      | (refine TRun.id ?_; first
          | refine TRun.nil ?_
          | refine TRun.many rfl rfl (by kernel_rfl) ?_ ?_
          | refine TRun.same rfl rfl rfl ?_
          | refine TRun.same2 rfl rfl rfl ?_
          | refine TRun.split rfl rfl rfl rfl (fun h => ?_) (fun h => ?_))
      | (refine HoldsT.id ?_; first
          | refine HoldsT.seq ?_
          | refine HoldsT.regionU ?_
          | refine HoldsT.drawn tabs2 ?_
          | refine HoldsT.yes rfl ?_
          | refine HoldsT.no rfl ?_
          | refine HoldsT.cond rfl (fun h => ?_) (fun h => ?_)
          | refine HoldsT.block ?_
          | refine HoldsT.ret ?_
          | refine HoldsT.skip ?_
          | refine HoldsT.exit ?_)
      | (refine okTr_intro ?_; kernel_rfl)
      | exact absurd rfl h
      | refine allProp_C ?_ ?_
      | refine And.intro ?_ ?_
      | omega
      | (show _ < List.length _; omega)
      | exact rowlen_intro rfl
      | exact lenEq_intro rfl
      | exact Nat.le_of_ble_eq_true rfl
      | (simp only [AV.rowlenD, AV.rowlen, AV.ncells, mulSz, toN, Option.map_some, Option.map_none, cutL, List.length_take, List.length_drop, List.length_append, List.length_cons, List.length_nil, List.length_set, Option.some.injEq, Int.reduceToNat] <;> omega))
    all_goals exact FinC.te (y := .agg [.int .i64 _, .int .i64 _]) rfl rfl ⟨trivial, trivial, trivial⟩ rfl
  | true =>
    refine Pure.ofT tab2_ok Try.func49 rfl rfl [.cell 6 23] rfl (by decide) rfl ⟨37, 6, (.node (.node (.node (.node (.node (.node (.leaf (.slS ls)) (J 0)) (J 1)) (J 2)) (J 3)) (.node (.node (.node (.node (.leaf (.bool true)) (J 0)) (J 1)) (J 2)) (J 3))) (.node (.node (.node (.node (.node (.leaf (.agg [.int .i64 l, .int .i64 c])) (J 0)) (J 1)) (J 2)) (J 3)) (J 4))), (OO 6)⟩ (by kernel_rfl) (by kernel_rfl) ?_
    repeat' (first
      | refine allProp_T ?_
      | exact trivial
      | (refine URun.id ?_; first
          | refine URun.nil ?_
          | refine URun.many tabs2 rfl rfl (by kernel_rfl) ?_ ?_
          | refine URun.same tabs2 rfl rfl rfl ?_
          | refine URun.same2 tabs2 rfl rfl rfl ?_
          | refine URun.split tabs2 rfl rfl rfl rfl (fun h => ?_) (fun h => ?_))
      | (refine TRun.id ?_; first
          | refine TRun.nil ?_
          | refine TRun.many rfl rfl (by kernel_rfl) ?_ ?_
          | refine TRun.same rfl rfl rfl ?_
          | refine TRun.same2 rfl rfl rfl ?_
          | refine TRun.split rfl rfl rfl rfl (fun h => ?_) (fun h => ?_))
      | (refine HoldsT.id ?_; first
          | refine HoldsT.seq ?_
          | refine HoldsT.regionU ?_
          | refine HoldsT.drawn tabs2 ?_
          | refine HoldsT.yes rfl ?_
          | refine HoldsT.no rfl ?_
          | refine HoldsT.cond rfl (fun h => ?_) (fun h => ?_)
          | refine HoldsT.block ?_
          | refine HoldsT.ret ?_
          | refine HoldsT.skip ?_
          | refine HoldsT.exit ?_)
      | (refine okTr_intro ?_; kernel_rfl)
      | exact absurd rfl h
      | refine allProp_C ?_ ?_
      | refine And.intro ?_ ?_
      | omega
      | (show _ < List.length _; omega)
      | exact rowlen_intro rfl
      | exact lenEq_intro rfl
      | exact Nat.le_of_ble_eq_true rfl
      | (simp only [AV.rowlenD, AV.rowlen, AV.ncells, mulSz, toN, Option.map_some, Option.map_none, cutL, List.length_take, List.length_drop, List.length_append, List.length_cons, List.length_nil, List.length_set, Option.some.injEq, Int.reduceToNat] <;> omega))
    all_goals exact FinC.te (y := .agg [.int .i64 _, .int .i64 _]) rfl rfl ⟨trivial, trivial, trivial⟩ rfl

set_option maxRecDepth 10000 in
set_option maxHeartbeats 8000000 in
theorem p71 (ls : List (List UInt8)) (l : Int) (hl : ls.length ≤ 1000000000) (hB : ∀ n : Nat, (ls.getD n []).length ≤ 1000000000000) (h0 : 0 < ls.length) (h1 : 0 ≤ l) : Pure Try.prog 71 [.slS ls, .int .i64 l] (.agg [.int .i64 (min l ((ls.length : Int) - 1)), .int .i64 (firstL (ls.getD (min l ((ls.length : Int) - 1)).toNat []))]) := by
  have k93 := p93 (ls.getD (min l ((ls.length : Int) - 1)).toNat []) (hB _)
  refine Pure.ofT tab2_ok Try.func71 rfl rfl [.cell 4 23] rfl (by decide) rfl ⟨17, 5, (.node (.node (.node (.node (.node (.leaf (.slS ls)) (J 0)) (J 1)) (J 2)) (J 3)) (.node (.node (.node (.node (.leaf (.int .i64 l)) (J 0)) (J 1)) (J 2)) (J 3))), (OO 5)⟩ (by kernel_rfl) (by kernel_rfl) ?_
  repeat' (first
    | refine allProp_T ?_
    | exact trivial
    | (refine URun.id ?_; first
        | refine URun.nil ?_
        | refine URun.many tabs2 rfl rfl (by kernel_rfl) ?_ ?_
        | (refine URun.toCall 93 rfl ?_; first
          | refine URun.call tabs2 rfl rfl rfl rfl k93 rfl rfl ?_ rfl ?_)
        | refine URun.same tabs2 rfl rfl rfl ?_
        | refine URun.same2 tabs2 rfl rfl rfl ?_
        | refine URun.split tabs2 rfl rfl rfl rfl (fun h => ?_) (fun h => ?_))
    | (refine TRun.id ?_; first
        | refine TRun.nil ?_
        | refine TRun.many rfl rfl (by kernel_rfl) ?_ ?_
        | (refine TRun.toCall 93 rfl ?_; first
          | refine TRun.call rfl rfl rfl rfl k93 rfl rfl ?_ rfl ?_)
        | refine TRun.same rfl rfl rfl ?_
        | refine TRun.same2 rfl rfl rfl ?_
        | refine TRun.split rfl rfl rfl rfl (fun h => ?_) (fun h => ?_))
    | (refine HoldsT.id ?_; first
        | refine HoldsT.seq ?_
        | refine HoldsT.regionU ?_
        | refine HoldsT.drawn tabs2 ?_
        | refine HoldsT.yes rfl ?_
        | refine HoldsT.no rfl ?_
        | refine HoldsT.cond rfl (fun h => ?_) (fun h => ?_)
        | refine HoldsT.block ?_
        | refine HoldsT.ret ?_
        | refine HoldsT.skip ?_
        | refine HoldsT.exit ?_)
    | (refine okTr_intro ?_; kernel_rfl)
    | exact absurd rfl h
    | refine allProp_C ?_ ?_
    | refine And.intro ?_ ?_
    | omega
    | (show _ < List.length _; omega)
    | exact rowlen_intro rfl
    | exact lenEq_intro rfl
    | exact Nat.le_of_ble_eq_true rfl
    | (simp only [AV.rowlenD, AV.rowlen, AV.ncells, mulSz, toN, Option.map_some, Option.map_none, cutL, List.length_take, List.length_drop, List.length_append, List.length_cons, List.length_nil, List.length_set, Option.some.injEq, Int.reduceToNat] <;> omega))
  all_goals exact FinC.te (y := .agg [.int .i64 _, .int .i64 _]) rfl rfl ⟨trivial, trivial, trivial⟩ rfl
set_option maxRecDepth 10000 in
set_option maxHeartbeats 8000000 in
theorem p47 (ls : List (List UInt8)) (k fl fc tl tc : Int) (hL : ls.length ≤ 1000000000000) (hB : ∀ n : Nat, (ls.getD n []).length ≤ 1000000000000) : Pure Try.prog 47 [.slS ls, .agg [.int .i64 k, .int .i64 fl, .int .i64 fc, .int .i64 tl, .int .i64 tc]] (.agg [.int .i64 k, .slS (textL ls k fl fc tl tc)]) := by
  have k29 := p29 ls k fl fc tl tc hL hB
  refine Pure.ofT tab2_ok Try.func47 rfl rfl [.cell 4 71] rfl (by decide) rfl ⟨11, 4, (.node (.node (.node (.node (.leaf (.slS ls)) (J 0)) (J 1)) (J 2)) (.node (.node (.node (.leaf (.agg [.int .i64 k, .int .i64 fl, .int .i64 fc, .int .i64 tl, .int .i64 tc])) (J 0)) (J 1)) (J 2))), (OO 4)⟩ (by kernel_rfl) (by kernel_rfl) ?_
  repeat' (first
    | refine allProp_T ?_
    | exact trivial
    | (refine URun.id ?_; first
        | refine URun.nil ?_
        | refine URun.many tabs2 rfl rfl (by kernel_rfl) ?_ ?_
        | (refine URun.toCall 29 rfl ?_; first
          | refine URun.call tabs2 rfl rfl rfl rfl k29 rfl rfl ?_ rfl ?_)
        | refine URun.same tabs2 rfl rfl rfl ?_
        | refine URun.same2 tabs2 rfl rfl rfl ?_
        | refine URun.split tabs2 rfl rfl rfl rfl (fun h => ?_) (fun h => ?_))
    | (refine TRun.id ?_; first
        | refine TRun.nil ?_
        | refine TRun.many rfl rfl (by kernel_rfl) ?_ ?_
        | (refine TRun.toCall 29 rfl ?_; first
          | refine TRun.call rfl rfl rfl rfl k29 rfl rfl ?_ rfl ?_)
        | refine TRun.same rfl rfl rfl ?_
        | refine TRun.same2 rfl rfl rfl ?_
        | refine TRun.split rfl rfl rfl rfl (fun h => ?_) (fun h => ?_))
    | (refine HoldsT.id ?_; first
        | refine HoldsT.seq ?_
        | refine HoldsT.regionU ?_
        | refine HoldsT.drawn tabs2 ?_
        | refine HoldsT.yes rfl ?_
        | refine HoldsT.no rfl ?_
        | refine HoldsT.cond rfl (fun h => ?_) (fun h => ?_)
        | refine HoldsT.block ?_
        | refine HoldsT.ret ?_
        | refine HoldsT.skip ?_
        | refine HoldsT.exit ?_)
    | (refine okTr_intro ?_; kernel_rfl)
    | exact absurd rfl h
    | refine allProp_C ?_ ?_
    | refine And.intro ?_ ?_
    | omega
    | (show _ < List.length _; omega)
    | exact rowlen_intro rfl
    | exact lenEq_intro rfl
    | exact Nat.le_of_ble_eq_true rfl
    | (simp only [AV.rowlenD, AV.rowlen, AV.ncells, mulSz, toN, Option.map_some, Option.map_none, cutL, List.length_take, List.length_drop, List.length_append, List.length_cons, List.length_nil, List.length_set, Option.some.injEq, Int.reduceToNat] <;> omega))
  all_goals exact FinC.te (y := .agg [.int .i64 _, .slS _]) rfl rfl ⟨trivial, trivial, trivial⟩ rfl

end Go.Proofs.Ytefbgdnobnemkaa.AM
