/-
  May a register be put so often?
-/
import Derived.Test.YtefbgdnobnemkaaF34
import Derived.Test.YtefbgdnobnemkaaM36
set_option linter.unusedSimpArgs false
set_option linter.unusedVariables false
set_option linter.unusedSectionVars false
namespace Go.Proofs.Ytefbgdnobnemkaa.AM
open Go Go.RowKit

/-- The first line, of lines told from i on, that holds a line feed: its place, or -1. -/
def ixLF : List (List UInt8) → Int → Int
  | [], _ => -1
  | l :: r, i => if noLF l = true then ixLF r (i + 1) else i
theorem ixLF_neg : ∀ (ls : List (List UInt8)) (i : Int), 0 ≤ i → (decide (ixLF ls i ≥ 0) = !ls.all noLF)
  | [], i, _ => by simp [ixLF]
  | l :: r, i, h => by
    have ih := ixLF_neg r (i + 1) (by omega)
    unfold ixLF
    cases hl : noLF l with
    | true => simp only [if_true, List.all_cons, hl, Bool.true_and]; exact ih
    | false => simp [hl, h]
theorem any_noLF (s : List UInt8) : s.any (· == 10) = !noLF s := by
  unfold noLF
  induction s with
  | nil => rfl
  | cons a s ih => rw [List.any_cons, List.all_cons, ih, Bool.not_and, bne, Bool.not_not]
set_option maxRecDepth 10000 in
set_option maxHeartbeats 8000000 in
theorem p96 (s : List UInt8) : Pure Try.prog 96 [.str s] (.bool (!noLF s)) := by
  have k65 := p65 s 10
  rw [any_noLF] at k65
  refine Pure.ofT tab2_ok Try.func96 rfl rfl [.tmp 2] rfl (by decide) rfl ⟨5, 3, (.node (.node (.node (.leaf (.str s)) (J 0)) (J 1)) (J 2)), (OO 3)⟩ (by kernel_rfl) (by kernel_rfl) ?_
  repeat' (first
    | refine allProp_T ?_
    | exact trivial
    | (refine URun.id ?_; first
        | refine URun.nil ?_
        | refine URun.many tabs2 rfl rfl (by kernel_rfl) ?_ ?_
        | (refine URun.toCall 65 rfl ?_; first
          | refine URun.call tabs2 rfl rfl rfl rfl k65 rfl rfl ?_ rfl ?_)
        | refine URun.same tabs2 rfl rfl rfl ?_
        | refine URun.same2 tabs2 rfl rfl rfl ?_
        | refine URun.split tabs2 rfl rfl rfl rfl (fun h => ?_) (fun h => ?_))
    | (refine TRun.id ?_; first
        | refine TRun.nil ?_
        | refine TRun.many rfl rfl (by kernel_rfl) ?_ ?_
        | (refine TRun.toCall 65 rfl ?_; first
          | refine TRun.call rfl rfl rfl rfl k65 rfl rfl ?_ rfl ?_)
        | refine TRun.same rfl rfl rfl ?_
        | refine TRun.same2 rfl rfl rfl ?_
        | refine TRun.split rfl rfl rfl rfl (fun h => ?_) (fun h => ?_))
    | (refine HoldsT.id ?_; first
        | refine HoldsT.seq ?_
        | refine HoldsT.regionU ?_
        | refine HoldsT.drawn tabs2 ?_
        | refine HoldsT.yes rfl ?_
        | refine HoldsT.no rfl ?_
        | refine HoldsT.cond rfl (fun h => ?_) (fun h => ?_)
        | refine HoldsT.block ?_
        | refine HoldsT.ret ?_
        | refine HoldsT.skip ?_
        | refine HoldsT.exit ?_)
    | (refine okTr_intro ?_; kernel_rfl)
    | exact absurd rfl h
    | refine allProp_C ?_ ?_
    | refine And.intro ?_ ?_
    | omega
    | (show _ < List.length _; omega)
    | exact rowlen_intro rfl
    | exact lenEq_intro rfl
    | exact Nat.le_of_ble_eq_true rfl
    | (simp only [AV.rowlenD, AV.rowlen, AV.ncells, mulSz, toN, Option.map_some, Option.map_none, cutL, List.length_take, List.length_drop, List.length_append, List.length_cons, List.length_nil, List.length_set, Option.some.injEq, Int.reduceToNat] <;> omega))
  all_goals exact FinC.te (y := .bool _) rfl rfl trivial rfl

def sh117 (ls : List (List UInt8)) (i : Int) : TS := ⟨19, 5, (.node (.node (.node (.node (.node (.leaf (.slS ls)) (J 0)) (.node (.leaf (.int .i64 i)) (J 0))) (J 2)) (J 3)) (.node (.node (.node (.node (.leaf (.fn 96 [])) (J 0)) (J 1)) (J 2)) (.node (J 2) (.node (.node (.leaf (.int .i64 (ls.length : Int))) (J 0)) (J 1))))), (OO 5)⟩
set_option maxRecDepth 10000 in
set_option maxHeartbeats 8000000 in
theorem p117 (ls : List (List UInt8)) (hl : ls.length ≤ 1000000000000) : Pure Try.prog 117 [.slS ls, .fn 96 []] (.int .i64 (ixLF ls 0)) := by
  refine Pure.ofT tab2_ok Try.func117 rfl rfl [.tmp 4] rfl (by decide) rfl ⟨19, 5, (.node (.node (.node (.node (.node (.leaf (.slS ls)) (J 0)) (J 1)) (J 2)) (J 3)) (.node (.node (.node (.node (.leaf (.fn 96 [])) (J 0)) (J 1)) (J 2)) (J 3))), (OO 5)⟩ (by kernel_rfl) (by kernel_rfl) ?_
  repeat' (first
    | refine allProp_T ?_
    | exact trivial
    | (refine URun.id ?_; first
        | refine URun.nil ?_
        | refine URun.many tabs2 rfl rfl (by kernel_rfl) ?_ ?_
        | refine URun.same tabs2 rfl rfl rfl ?_
        | refine URun.same2 tabs2 rfl rfl rfl ?_
        | refine URun.split tabs2 rfl rfl rfl rfl (fun h => ?_) (fun h => ?_))
    | (refine TRun.id ?_; first
        | refine TRun.nil ?_
        | refine TRun.many rfl rfl (by kernel_rfl) ?_ ?_
        | refine TRun.same rfl rfl rfl ?_
        | refine TRun.same2 rfl rfl rfl ?_
        | refine TRun.split rfl rfl rfl rfl (fun h => ?_) (fun h => ?_))
    | (refine HoldsT.id ?_; first
        | refine HoldsT.seq ?_
        | refine HoldsT.regionU ?_
        | refine HoldsT.drawn tabs2 ?_
        | refine HoldsT.yes rfl ?_
        | refine HoldsT.no rfl ?_
        | refine HoldsT.cond rfl (fun h => ?_) (fun h => ?_)
        | refine HoldsT.block ?_
        | refine HoldsT.ret ?_
        | refine HoldsT.skip ?_
        | refine HoldsT.exit ?_)
    | (refine okTr_intro ?_; kernel_rfl)
    | exact absurd rfl h
    | refine allProp_C ?_ ?_
    | refine And.intro ?_ ?_
    | omega
    | (show _ < List.length _; omega)
    | exact rowlen_intro rfl
    | exact lenEq_intro rfl
    | exact Nat.le_of_ble_eq_true rfl
    | (simp only [AV.rowlenD, AV.rowlen, AV.ncells, mulSz, toN, Option.map_some, Option.map_none, cutL, List.length_take, List.length_drop, List.length_append, List.length_cons, List.length_nil, List.length_set, Option.some.injEq, Int.reduceToNat] <;> omega))
  refine HoldsT.loop (fun i : Int => sh117 ls i) (fun i => (ls.length - i).toNat) (fun i => 0 ≤ i ∧ i ≤ ls.length ∧ ixLF (ls.drop i.toNat) i = ixLF ls 0) 0 ?_ ?_ (fun _ => by kernel_rfl) ?_
  · refine WeakT.of ?_ ?_ (by kernel_rfl)
    · repeat' (first | exact TTle.junk _ _ | exact TTle.same _ | refine TTle.node ?_ ?_ | refine TTle.leaf ?_ | exact AVle.junk _ | exact AVle.rfl' rfl | exact AVle.nilS | exact AVle.nilB)
    · repeat' (first | exact OOle.none _ _ | exact OOle.same _ | refine OOle.node ?_ ?_ | exact OOle.leaf _ | exact OOle.gone _)
  · exact ⟨by simp, by simp, rfl⟩
  · intro i hi
    obtain ⟨h1, h2, h3⟩ := hi
    have hs : i < ls.length → ixLF (ls.drop i.toNat) i = if noLF (ls.getD i.toNat []) = true then ixLF (ls.drop (i.toNat + 1)) (i + 1) else i := fun h => by
      have hd : ls.drop i.toNat = ls.getD i.toNat [] :: ls.drop (i.toNat + 1) := by
        rw [List.drop_eq_getElem_cons (by omega)]
        simp [show i.toNat < ls.length by omega]
      rw [hd, ixLF]
    have k96 := p96 (ls.getD i.toNat [])
    show HoldsT Try.prog _ (sh117 ls i) _
    repeat' (first
      | refine allProp_T ?_
      | exact trivial
      | (refine URun.id ?_; first
          | refine URun.nil ?_
          | refine URun.many tabs2 rfl rfl (by kernel_rfl) ?_ ?_
          | (refine URun.toCall 96 rfl ?_; first
            | refine URun.callB tabs2 rfl rfl rfl rfl k96 rfl rfl ?_ rfl rfl (fun h => ?_) (fun h => ?_))
          | refine URun.same tabs2 rfl rfl rfl ?_
          | refine URun.same2 tabs2 rfl rfl rfl ?_
          | refine URun.split tabs2 rfl rfl rfl rfl (fun h => ?_) (fun h => ?_))
      | (refine TRun.id ?_; first
          | refine TRun.nil ?_
          | refine TRun.many rfl rfl (by kernel_rfl) ?_ ?_
          | (refine TRun.toCall 96 rfl ?_; first
            | refine TRun.callB rfl rfl rfl rfl k96 rfl rfl ?_ rfl rfl (fun h => ?_) (fun h => ?_))
          | refine TRun.same rfl rfl rfl ?_
          | refine TRun.same2 rfl rfl rfl ?_
          | refine TRun.split rfl rfl rfl rfl (fun h => ?_) (fun h => ?_))
      | (refine HoldsT.id ?_; first
          | refine HoldsT.seq ?_
          | refine HoldsT.regionU ?_
          | refine HoldsT.drawn tabs2 ?_
          | refine HoldsT.yes rfl ?_
          | refine HoldsT.no rfl ?_
          | refine HoldsT.cond rfl (fun h => ?_) (fun h => ?_)
          | refine HoldsT.block ?_
          | refine HoldsT.ret ?_
          | refine HoldsT.skip ?_
          | refine HoldsT.exit ?_)
      | (refine okTr_intro ?_; kernel_rfl)
      | exact absurd rfl h
      | refine allProp_C ?_ ?_
      | refine And.intro ?_ ?_
      | omega
      | (show _ < List.length _; omega)
      | exact rowlen_intro rfl
      | exact lenEq_intro rfl
      | exact Nat.le_of_ble_eq_true rfl
      | (simp only [AV.rowlenD, AV.rowlen, AV.ncells, mulSz, toN, Option.map_some, Option.map_none, cutL, List.length_take, List.length_drop, List.length_append, List.length_cons, List.length_nil, List.length_set, Option.some.injEq, Int.reduceToNat] <;> omega))
    all_goals first
      | (refine FinC.te (y := .int .i64 _) rfl rfl trivial (congrArg (AV.int .i64) ?_)
         rw [← h3, hs (by omega), if_neg (by simp_all)])
      | (refine ⟨i + 1, ⟨by omega, by omega, by omega, ?_⟩, ?_⟩
         · rw [toNat_succ h1, ← h3, hs (by omega), if_pos (by simp_all)]
         · refine WeakT.of ?_ ?_ (by kernel_rfl)
           · repeat' (first | exact TTle.junk _ _ | exact TTle.same _ | refine TTle.node ?_ ?_ | refine TTle.leaf ?_ | exact AVle.junk _ | exact AVle.rfl' rfl | exact AVle.nilS | exact AVle.nilB)
           · repeat' (first | exact OOle.none _ _ | exact OOle.same _ | refine OOle.node ?_ ?_ | exact OOle.leaf _ | exact OOle.gone _))
      | (refine FinC.te (y := .int .i64 _) rfl rfl trivial (congrArg (AV.int .i64) ?_)
         rw [← h3, List.drop_eq_nil_of_le (by omega)]; rfl)

set_option maxRecDepth 10000 in
set_option maxHeartbeats 8000000 in
theorem p95 (ls : List (List UInt8)) (hl : ls.length ≤ 1000000000000) : Pure Try.prog 95 [.slS ls, .fn 96 []] (.bool (!ls.all noLF)) := by
  have k117 := p117 ls hl
  have e := ixLF_neg ls 0 (by omega)
  refine Pure.ofT tab2_ok Try.func95 rfl rfl [.tmp 4] rfl (by decide) rfl ⟨9, 4, (.node (.node (.node (.node (.leaf (.slS ls)) (J 0)) (J 1)) (J 2)) (.node (.node (.node (.leaf (.fn 96 [])) (J 0)) (J 1)) (J 2))), (OO 4)⟩ (by kernel_rfl) (by kernel_rfl) ?_
  repeat' (first
    | refine allProp_T ?_
    | exact trivial
    | (refine URun.id ?_; first
        | refine URun.nil ?_
        | refine URun.many tabs2 rfl rfl (by kernel_rfl) ?_ ?_
        | (refine URun.toCall 117 rfl ?_; first
          | refine URun.call tabs2 rfl rfl rfl rfl k117 rfl rfl ?_ rfl ?_)
        | refine URun.same tabs2 rfl rfl rfl ?_
        | refine URun.same2 tabs2 rfl rfl rfl ?_
        | refine URun.split tabs2 rfl rfl rfl rfl (fun h => ?_) (fun h => ?_))
    | (refine TRun.id ?_; first
        | refine TRun.nil ?_
        | refine TRun.many rfl rfl (by kernel_rfl) ?_ ?_
        | (refine TRun.toCall 117 rfl ?_; first
          | refine TRun.call rfl rfl rfl rfl k117 rfl rfl ?_ rfl ?_)
        | refine TRun.same rfl rfl rfl ?_
        | refine TRun.same2 rfl rfl rfl ?_
        | refine TRun.split rfl rfl rfl rfl (fun h => ?_) (fun h => ?_))
    | (refine HoldsT.id ?_; first
        | refine HoldsT.seq ?_
        | refine HoldsT.regionU ?_
        | refine HoldsT.drawn tabs2 ?_
        | refine HoldsT.yes rfl ?_
        | refine HoldsT.no rfl ?_
        | refine HoldsT.cond rfl (fun h => ?_) (fun h => ?_)
        | refine HoldsT.block ?_
        | refine HoldsT.ret ?_
        | refine HoldsT.skip ?_
        | refine HoldsT.exit ?_)
    | (refine okTr_intro ?_; kernel_rfl)
    | exact absurd rfl h
    | refine allProp_C ?_ ?_
    | refine And.intro ?_ ?_
    | omega
    | (show _ < List.length _; omega)
    | exact rowlen_intro rfl
    | exact lenEq_intro rfl
    | exact Nat.le_of_ble_eq_true rfl
    | (simp only [AV.rowlenD, AV.rowlen, AV.ncells, mulSz, toN, Option.map_some, Option.map_none, cutL, List.length_take, List.length_drop, List.length_append, List.length_cons, List.length_nil, List.length_set, Option.some.injEq, Int.reduceToNat] <;> omega))
  all_goals refine FinC.te (y := .bool _) rfl rfl trivial (congrArg AV.bool ?_)
  all_goals (rw [← e]; first | exact (decide_eq_true (by assumption)).symm | exact (decide_eq_false (by omega)).symm)

def sh94 (ls : List (List UInt8)) (n i : Int) : TS := ⟨19, 5, (.node (.node (.node (.node (J 1) (.node (.leaf (.int .i64 i)) (J 0))) (J 2)) (.node (J 2) (.node (.node (.leaf (.slS ls)) (J 0)) (J 1)))) (.node (J 3) (.node (.node (.node (.leaf (.int .i64 n)) (J 0)) (J 1)) (.node (.node (.leaf (.int .i64 (ls.length : Int))) (J 0)) (J 1))))), (OO 5)⟩
set_option maxRecDepth 10000 in
set_option maxHeartbeats 8000000 in
theorem p94 (ls : List (List UInt8)) (hl : ls.length ≤ 1000000000) (hs : sumL ls ≤ 1000000000000000) : Pure Try.prog 94 [.slS ls] (.int .i64 (sizeL ls)) := by
  refine Pure.ofT tab2_ok Try.func94 rfl rfl [.tmp 2] rfl (by decide) rfl ⟨19, 5, (.node (.node (.node (.node (.node (.leaf (.slS ls)) (J 0)) (J 1)) (J 2)) (J 3)) (J 4)), (OO 5)⟩ (by kernel_rfl) (by kernel_rfl) ?_
  repeat' (first
    | refine allProp_T ?_
    | exact trivial
    | (refine URun.id ?_; first
        | refine URun.nil ?_
        | refine URun.many tabs2 rfl rfl (by kernel_rfl) ?_ ?_
        | refine URun.same tabs2 rfl rfl rfl ?_
        | refine URun.same2 tabs2 rfl rfl rfl ?_
        | refine URun.split tabs2 rfl rfl rfl rfl (fun h => ?_) (fun h => ?_))
    | (refine TRun.id ?_; first
        | refine TRun.nil ?_
        | refine TRun.many rfl rfl (by kernel_rfl) ?_ ?_
        | refine TRun.same rfl rfl rfl ?_
        | refine TRun.same2 rfl rfl rfl ?_
        | refine TRun.split rfl rfl rfl rfl (fun h => ?_) (fun h => ?_))
    | (refine HoldsT.id ?_; first
        | refine HoldsT.seq ?_
        | refine HoldsT.regionU ?_
        | refine HoldsT.drawn tabs2 ?_
        | refine HoldsT.yes rfl ?_
        | refine HoldsT.no rfl ?_
        | refine HoldsT.cond rfl (fun h => ?_) (fun h => ?_)
        | refine HoldsT.block ?_
        | refine HoldsT.ret ?_
        | refine HoldsT.skip ?_
        | refine HoldsT.exit ?_)
    | (refine okTr_intro ?_; kernel_rfl)
    | exact absurd rfl h
    | refine allProp_C ?_ ?_
    | refine And.intro ?_ ?_
    | omega
    | (show _ < List.length _; omega)
    | exact rowlen_intro rfl
    | exact lenEq_intro rfl
    | exact Nat.le_of_ble_eq_true rfl
    | (simp only [AV.rowlenD, AV.rowlen, AV.ncells, mulSz, toN, Option.map_some, Option.map_none, cutL, List.length_take, List.length_drop, List.length_append, List.length_cons, List.length_nil, List.length_set, Option.some.injEq, Int.reduceToNat] <;> omega))
  refine HoldsT.loop (fun x : Int × Int => sh94 ls x.1 x.2) (fun x => (ls.length - x.2).toNat) (fun x => 0 ≤ x.2 ∧ x.2 ≤ ls.length ∧ x.1 = sizeL (ls.take x.2.toNat)) (0, 0) ?_ ?_ (fun _ => by kernel_rfl) ?_
  · refine WeakT.of ?_ ?_ (by kernel_rfl)
    · repeat' (first | exact TTle.junk _ _ | exact TTle.same _ | refine TTle.node ?_ ?_ | refine TTle.leaf ?_ | exact AVle.junk _ | exact AVle.rfl' rfl | exact AVle.nilS | exact AVle.nilB)
    · repeat' (first | exact OOle.none _ _ | exact OOle.same _ | refine OOle.node ?_ ?_ | exact OOle.leaf _ | exact OOle.gone _)
  · exact ⟨by simp, by simp, by simp [sizeL, sumL]⟩
  · intro x hx
    obtain ⟨n, i⟩ := x
    obtain ⟨h1, h2, h3⟩ := hx
    simp only at h1 h2 h3
    have hs1 : i < ls.length → sizeL (ls.take (i.toNat + 1)) = sizeL (ls.take i.toNat) + (ls.getD i.toNat []).length + 1 := fun hi => sizeL_take ls i.toNat (by omega)
    have hs2 := sumL_le ls (i.toNat + 1)
    have hs3 : sizeL (ls.take (i.toNat + 1)) ≤ 1000001000000000 := by unfold sizeL; rw [List.length_take]; omega
    show HoldsT Try.prog _ (sh94 ls n i) _
    repeat' (first
      | refine allProp_T ?_
      | exact trivial
      | (refine URun.id ?_; first
          | refine URun.nil ?_
          | refine URun.many tabs2 rfl rfl (by kernel_rfl) ?_ ?_
          | refine URun.same tabs2 rfl rfl rfl ?_
          | refine URun.same2 tabs2 rfl rfl rfl ?_
          | refine URun.split tabs2 rfl rfl rfl rfl (fun h => ?_) (fun h => ?_))
      | (refine TRun.id ?_; first
          | refine TRun.nil ?_
          | refine TRun.many rfl rfl (by kernel_rfl) ?_ ?_
          | refine TRun.same rfl rfl rfl ?_
          | refine TRun.same2 rfl rfl rfl ?_
          | refine TRun.split rfl rfl rfl rfl (fun h => ?_) (fun h => ?_))
      | (refine HoldsT.id ?_; first
          | refine HoldsT.seq ?_
          | refine HoldsT.regionU ?_
          | refine HoldsT.drawn tabs2 ?_
          | refine HoldsT.yes rfl ?_
          | refine HoldsT.no rfl ?_
          | refine HoldsT.cond rfl (fun h => ?_) (fun h => ?_)
          | refine HoldsT.block ?_
          | refine HoldsT.ret ?_
          | refine HoldsT.skip ?_
          | refine HoldsT.exit ?_)
      | (refine okTr_intro ?_; kernel_rfl)
      | exact absurd rfl h
      | (have hs4 := hs1 (by assumption); omega)
      | refine allProp_C ?_ ?_
      | refine And.intro ?_ ?_
      | omega
      | (show _ < List.length _; omega)
      | exact rowlen_intro rfl
      | exact lenEq_intro rfl
      | exact Nat.le_of_ble_eq_true rfl
      | (simp only [AV.rowlenD, AV.rowlen, AV.ncells, mulSz, toN, Option.map_some, Option.map_none, cutL, List.length_take, List.length_drop, List.length_append, List.length_cons, List.length_nil, List.length_set, Option.some.injEq, Int.reduceToNat] <;> omega))
    · have hs4 := hs1 h
      refine ⟨(n + ((ls.getD i.toNat []).length + 1), i + 1), ⟨by simp only; omega, by simp only; omega, by simp only; omega, ?_⟩, ?_⟩
      · simp only; rw [toNat_succ h1]; omega
      · refine WeakT.of ?_ ?_ (by kernel_rfl)
        · repeat' (first | exact TTle.junk _ _ | exact TTle.same _ | refine TTle.node ?_ ?_ | refine TTle.leaf ?_ | exact AVle.junk _ | exact AVle.rfl' rfl | exact AVle.nilS | exact AVle.nilB)
        · repeat' (first | exact OOle.none _ _ | exact OOle.same _ | refine OOle.node ?_ ?_ | exact OOle.leaf _ | exact OOle.gone _)
    · refine FinC.te (y := .int .i64 _) rfl rfl trivial (congrArg (AV.int .i64) ?_)
      rw [h3, List.take_of_length_le (by omega)]

/-- May lines be put n times? -/
def mayL (rs : List (List UInt8)) (n : Int) : Bool := decide (1 ≤ n ∧ n ≤ 9999 ∧ 0 < rs.length ∧ (sizeL rs : Int) ≤ Int.tdiv 4096 n) && rs.all noLF
theorem tdiv_in {a n : Int} (h0 : 0 ≤ a) (hn : 0 ≤ n) : 0 ≤ a.tdiv n ∧ a.tdiv n ≤ a := ⟨Int.tdiv_nonneg h0 hn, Int.tdiv_le_self n h0⟩
theorem may_iff {rs : List (List UInt8)} {n : Int} : mayL rs n = true ↔ (1 ≤ n ∧ n ≤ 9999 ∧ 0 < rs.length ∧ n * sizeL rs ≤ 4096) ∧ rs.all noLF = true := by
  unfold mayL
  rw [Bool.and_eq_true, decide_eq_true_eq]
  constructor
  · rintro ⟨⟨h1, h2, h3, h4⟩, h5⟩
    refine ⟨⟨h1, h2, h3, ?_⟩, h5⟩
    rw [Int.tdiv_eq_ediv_of_nonneg (by omega), Int.le_ediv_iff_mul_le (by omega)] at h4
    rw [Int.mul_comm]; exact h4
  · rintro ⟨⟨h1, h2, h3, h4⟩, h5⟩
    refine ⟨⟨h1, h2, h3, ?_⟩, h5⟩
    rw [Int.tdiv_eq_ediv_of_nonneg (by omega), Int.le_ediv_iff_mul_le (by omega), Int.mul_comm]
    exact h4

set_option maxRecDepth 10000 in
set_option maxHeartbeats 8000000 in
theorem p78 (rs : List (List UInt8)) (k n : Int) (hl : rs.length ≤ 1000000000) (hs : sumL rs ≤ 1000000000000000) : Pure Try.prog 78 [.agg [.int .i64 k, .slS rs], .int .i64 n] (.bool (mayL rs n)) := by
  have k94 := p94 rs hl hs
  have k95 := p95 rs (by omega)
  have hd : 1 ≤ n → 0 ≤ Int.tdiv 4096 n ∧ Int.tdiv 4096 n ≤ 4096 := fun h => tdiv_in (by omega) (by omega)
  refine Pure.ofT tab2_ok Try.func78 rfl rfl [.tmp 4] rfl (by decide) rfl ⟨29, 5, (.node (.node (.node (.node (.node (.leaf (.agg [.int .i64 k, .slS rs])) (J 0)) (J 1)) (J 2)) (J 3)) (.node (.node (.node (.node (.leaf (.int .i64 n)) (J 0)) (J 1)) (J 2)) (J 3))), (OO 5)⟩ (by kernel_rfl) (by kernel_rfl) ?_
  repeat' (first
    | refine allProp_T ?_
    | exact trivial
    | (refine URun.id ?_; first
        | refine URun.nil ?_
        | refine URun.many tabs2 rfl rfl (by kernel_rfl) ?_ ?_
        | (refine URun.toCall 94 rfl ?_; first
          | refine URun.call tabs2 rfl rfl rfl rfl k94 rfl rfl ?_ rfl ?_)
        | (refine URun.toCall 95 rfl ?_; first
          | refine URun.call tabs2 rfl rfl rfl rfl k95 rfl rfl ?_ rfl ?_)
        | refine URun.same tabs2 rfl rfl rfl ?_
        | refine URun.same2 tabs2 rfl rfl rfl ?_
        | refine URun.split tabs2 rfl rfl rfl rfl (fun h => ?_) (fun h => ?_))
    | (refine TRun.id ?_; first
        | refine TRun.nil ?_
        | refine TRun.many rfl rfl (by kernel_rfl) ?_ ?_
        | (refine TRun.toCall 94 rfl ?_; first
          | refine TRun.call rfl rfl rfl rfl k94 rfl rfl ?_ rfl ?_)
        | (refine TRun.toCall 95 rfl ?_; first
          | refine TRun.call rfl rfl rfl rfl k95 rfl rfl ?_ rfl ?_)
        | refine TRun.same rfl rfl rfl ?_
        | refine TRun.same2 rfl rfl rfl ?_
        | refine TRun.split rfl rfl rfl rfl (fun h => ?_) (fun h => ?_))
    | (refine HoldsT.id ?_; first
        | refine HoldsT.seq ?_
        | refine HoldsT.regionU ?_
        | refine HoldsT.drawn tabs2 ?_
        | refine HoldsT.yes rfl ?_
        | refine HoldsT.no rfl ?_
        | refine HoldsT.cond rfl (fun h => ?_) (fun h => ?_)
        | refine HoldsT.block ?_
        | refine HoldsT.ret ?_
        | refine HoldsT.skip ?_
        | refine HoldsT.exit ?_)
    | (refine okTr_intro ?_; kernel_rfl)
    | exact absurd rfl h
    | (have q := hd (by omega); omega)
    | refine allProp_C ?_ ?_
    | refine And.intro ?_ ?_
    | omega
    | (show _ < List.length _; omega)
    | exact rowlen_intro rfl
    | exact lenEq_intro rfl
    | exact Nat.le_of_ble_eq_true rfl
    | (simp only [AV.rowlenD, AV.rowlen, AV.ncells, mulSz, toN, Option.map_some, Option.map_none, cutL, List.length_take, List.length_drop, List.length_append, List.length_cons, List.length_nil, List.length_set, Option.some.injEq, Int.reduceToNat] <;> omega))
  all_goals refine FinC.te (y := .bool _) rfl rfl trivial (congrArg AV.bool ?_)
  all_goals (unfold mayL; first | (rw [decide_eq_false (by omega)]; rfl) | (rw [decide_eq_true (by omega), Bool.not_not]; rfl))

end Go.Proofs.Ytefbgdnobnemkaa.AM
