/-
  Texts that are written; lines that are joined.
-/
import Derived.Test.YtefbgdnobnemkaaDoorD1
import Derived.Test.YtefbgdnobnemkaaDoorLA
set_option linter.unusedSimpArgs false
set_option linter.unusedVariables false
set_option linter.unusedSectionVars false
namespace Go.Proofs.YtefbgdnobnemkaaDoor.AM
open Go Go.RowKit


set_option maxRecDepth 10000 in
set_option maxHeartbeats 8000000 in
theorem q14_no (ls t : List (List UInt8)) (l c : Int) (h : placeL ls l c = false ∨ t = []) : Pure Tryd.prog 14 [.slS ls, .agg [.int .i64 l, .int .i64 c], .slS t] tyNo.av := by
  have k62 := p62 ls l c
  cases hp : placeL ls l c with
  | false =>
    rw [hp] at k62
    refine Pure.ofT tab2_ok Tryd.func14 rfl rfl [.cell 6 31, .cell 7 24, .tmp 8] rfl (by decide) rfl ⟨81, 7, (.node (.node (.node (.node (.node (.node (.node (.leaf (.slS ls)) (J 0)) (J 1)) (J 2)) (J 3)) (J 4)) (.node (.node (.node (.node (.node (.leaf (.slS t)) (J 0)) (J 1)) (J 2)) (J 3)) (J 4))) (.node (.node (.node (.node (.node (.node (.leaf (.agg [.int .i64 l, .int .i64 c])) (J 0)) (J 1)) (J 2)) (J 3)) (J 4)) (J 5))), (OO 7)⟩ (by kernel_rfl) (by kernel_rfl) ?_
    repeat' (first
      | refine allProp_T ?_
      | exact trivial
      | (refine URun.id ?_; first
          | refine URun.nil ?_
          | refine URun.many tabs2 rfl rfl (by kernel_rfl) ?_ ?_
          | (refine URun.toCall 34 rfl ?_; first
            | refine URun.call tabs2 rfl rfl rfl rfl k62 rfl rfl ?_ rfl ?_)
          | refine URun.same tabs2 rfl rfl rfl ?_
          | refine URun.same2 tabs2 rfl rfl rfl ?_
          | refine URun.split tabs2 rfl rfl rfl rfl (fun h => ?_) (fun h => ?_))
      | (refine TRun.id ?_; first
          | refine TRun.nil ?_
          | refine TRun.many rfl rfl (by kernel_rfl) ?_ ?_
          | (refine TRun.toCall 34 rfl ?_; first
            | refine TRun.call rfl rfl rfl rfl k62 rfl rfl ?_ rfl ?_)
          | refine TRun.same rfl rfl rfl ?_
          | refine TRun.same2 rfl rfl rfl ?_
          | refine TRun.split rfl rfl rfl rfl (fun h => ?_) (fun h => ?_))
      | (refine HoldsT.id ?_; first
          | refine HoldsT.seq ?_
          | refine HoldsT.regionU ?_
          | refine HoldsT.drawn tabs2 ?_
          | refine HoldsT.yes rfl ?_
          | refine HoldsT.no rfl ?_
          | refine HoldsT.cond rfl (fun h => ?_) (fun h => ?_)
          | refine HoldsT.block ?_
          | refine HoldsT.ret ?_
          | refine HoldsT.skip ?_
          | refine HoldsT.exit ?_)
      | (refine okTr_intro ?_; kernel_rfl)
      | exact absurd rfl h
      | refine allProp_C ?_ ?_
      | refine And.intro ?_ ?_
      | omega
      | (show _ < List.length _; omega)
      | exact rowlen_intro rfl
      | exact lenEq_intro rfl
      | exact Nat.le_of_ble_eq_true rfl
      | (simp only [AV.rowlenD, AV.rowlen, AV.ncells, mulSz, toN, Option.map_some, Option.map_none, cutL, List.length_take, List.length_drop, List.length_append, List.length_cons, List.length_nil, List.length_set, Option.some.injEq, Int.reduceToNat] <;> omega))
    all_goals exact FinC.t (y := .tup [.agg [.int .i64 _, .nilsl, .nilsl], .agg [.int .i64 _, .int .i64 _], .bool _]) rfl rfl ⟨⟨trivial, trivial, trivial, trivial⟩, ⟨trivial, trivial, trivial⟩, trivial, trivial⟩ noLe
  | true =>
    rw [hp] at k62
    have ht : t = [] := by
      rcases h with h | h
      · rw [hp] at h; cases h
      · exact h
    subst ht
    refine Pure.ofT tab2_ok Tryd.func14 rfl rfl [.cell 6 31, .cell 7 24, .tmp 8] rfl (by decide) rfl ⟨81, 7, (.node (.node (.node (.node (.node (.node (.node (.leaf (.slS ls)) (J 0)) (J 1)) (J 2)) (J 3)) (J 4)) (.node (.node (.node (.node (.node (.leaf (.slS [])) (J 0)) (J 1)) (J 2)) (J 3)) (J 4))) (.node (.node (.node (.node (.node (.node (.leaf (.agg [.int .i64 l, .int .i64 c])) (J 0)) (J 1)) (J 2)) (J 3)) (J 4)) (J 5))), (OO 7)⟩ (by kernel_rfl) (by kernel_rfl) ?_
    repeat' (first
      | refine allProp_T ?_
      | exact trivial
      | (refine URun.id ?_; first
          | refine URun.nil ?_
          | refine URun.many tabs2 rfl rfl (by kernel_rfl) ?_ ?_
          | (refine URun.toCall 34 rfl ?_; first
            | refine URun.call tabs2 rfl rfl rfl rfl k62 rfl rfl ?_ rfl ?_)
          | refine URun.same tabs2 rfl rfl rfl ?_
          | refine URun.same2 tabs2 rfl rfl rfl ?_
          | refine URun.split tabs2 rfl rfl rfl rfl (fun h => ?_) (fun h => ?_))
      | (refine TRun.id ?_; first
          | refine TRun.nil ?_
          | refine TRun.many rfl rfl (by kernel_rfl) ?_ ?_
          | (refine TRun.toCall 34 rfl ?_; first
            | refine TRun.call rfl rfl rfl rfl k62 rfl rfl ?_ rfl ?_)
          | refine TRun.same rfl rfl rfl ?_
          | refine TRun.same2 rfl rfl rfl ?_
          | refine TRun.split rfl rfl rfl rfl (fun h => ?_) (fun h => ?_))
      | (refine HoldsT.id ?_; first
          | refine HoldsT.seq ?_
          | refine HoldsT.regionU ?_
          | refine HoldsT.drawn tabs2 ?_
          | refine HoldsT.yes rfl ?_
          | refine HoldsT.no rfl ?_
          | refine HoldsT.cond rfl (fun h => ?_) (fun h => ?_)
          | refine HoldsT.block ?_
          | refine HoldsT.ret ?_
          | refine HoldsT.skip ?_
          | refine HoldsT.exit ?_)
      | (refine okTr_intro ?_; kernel_rfl)
      | exact absurd rfl h
      | refine allProp_C ?_ ?_
      | refine And.intro ?_ ?_
      | omega
      | (show _ < List.length _; omega)
      | exact rowlen_intro rfl
      | exact lenEq_intro rfl
      | exact Nat.le_of_ble_eq_true rfl
      | (simp only [AV.rowlenD, AV.rowlen, AV.ncells, mulSz, toN, Option.map_some, Option.map_none, cutL, List.length_take, List.length_drop, List.length_append, List.length_cons, List.length_nil, List.length_set, Option.some.injEq, Int.reduceToNat] <;> omega))
    all_goals exact FinC.t (y := .tup [.agg [.int .i64 _, .nilsl, .nilsl], .agg [.int .i64 _, .int .i64 _], .bool _]) rfl rfl ⟨⟨trivial, trivial, trivial, trivial⟩, ⟨trivial, trivial, trivial⟩, trivial, trivial⟩ noLe

set_option maxRecDepth 10000 in
set_option maxHeartbeats 8000000 in
theorem q14 (ls t : List (List UInt8)) (l c : Int) (hl : ls.length ≤ 1000000000) (ht : t.length ≤ 1000000000) (hB : ∀ n : Nat, (ls.getD n []).length ≤ 140737488355328) (hT : ∀ n : Nat, (t.getD n []).length ≤ 140737488355328) (h : placeL ls l c = true) (h0 : 0 < (t.length : Int)) :
    Pure Tryd.prog 14 [.slS ls, .agg [.int .i64 l, .int .i64 c], .slS t] (TyR.av ⟨true, l, midL ls l 1, writeL (ls.getD l.toNat []) c t, l + ((t.length : Int) - 1), ((t.set 0 (cutL (ls.getD l.toNat []) none (some c.toNat) ++ t.getD 0 [])).getD ((t.length : Int) - 1).toNat []).length⟩) := by
  have k62 := p62 ls l c
  rw [h] at k62
  obtain ⟨hq1, hq2, hq3, hq4⟩ := of_decide_eq_true h
  have hb := hB l.toNat
  have ht0 := hT 0
  have hb2 : ((t.set 0 (cutL (ls.getD l.toNat []) none (some c.toNat) ++ t.getD 0 [])).getD ((t.length : Int) - 1).toNat []).length ≤ 281474976710656 :=
    getD_set_le (fun n => by have := hT n; omega) (by have := cutL_le (ls.getD l.toNat []) none (some c.toNat); rw [List.length_append]; omega)
  have hb3 : (cutL (ls.getD l.toNat []) (some c.toNat) none).length ≤ 140737488355328 := by have := cutL_le (ls.getD l.toNat []) (some c.toNat) none; omega
  have k77 := fun now => p77 ls now l l hl (by omega) (by omega) (by omega)
  rw [show l - l + 1 = 1 by omega] at k77
  refine Pure.ofT tab2_ok Tryd.func14 rfl rfl [.cell 6 31, .cell 7 24, .tmp 8] rfl (by decide) rfl ⟨81, 7, (.node (.node (.node (.node (.node (.node (.node (.leaf (.slS ls)) (J 0)) (J 1)) (J 2)) (J 3)) (J 4)) (.node (.node (.node (.node (.node (.leaf (.slS t)) (J 0)) (J 1)) (J 2)) (J 3)) (J 4))) (.node (.node (.node (.node (.node (.node (.leaf (.agg [.int .i64 l, .int .i64 c])) (J 0)) (J 1)) (J 2)) (J 3)) (J 4)) (J 5))), (OO 7)⟩ (by kernel_rfl) (by kernel_rfl) ?_
  repeat' (first
    | refine allProp_T ?_
    | exact trivial
    | (refine URun.id ?_; first
        | refine URun.nil ?_
        | refine URun.many tabs2 rfl rfl (by kernel_rfl) ?_ ?_
        | (refine URun.toCall 34 rfl ?_; first
          | refine URun.call tabs2 rfl rfl rfl rfl k62 rfl rfl ?_ rfl ?_)
        | (refine URun.toCall 35 rfl ?_; first
          | refine URun.call tabs2 rfl rfl rfl rfl (k77 _) rfl rfl ?_ rfl ?_)
        | refine URun.same tabs2 rfl rfl rfl ?_
        | refine URun.same2 tabs2 rfl rfl rfl ?_
        | refine URun.yes tabs2 rfl rfl (by omega) rfl ?_
        | refine URun.no tabs2 rfl rfl (by omega) rfl ?_
        | refine URun.split tabs2 rfl rfl rfl rfl (fun h => ?_) (fun h => ?_))
    | (refine TRun.id ?_; first
        | refine TRun.nil ?_
        | refine TRun.many rfl rfl (by kernel_rfl) ?_ ?_
        | (refine TRun.toCall 34 rfl ?_; first
          | refine TRun.call rfl rfl rfl rfl k62 rfl rfl ?_ rfl ?_)
        | (refine TRun.toCall 35 rfl ?_; first
          | refine TRun.call rfl rfl rfl rfl (k77 _) rfl rfl ?_ rfl ?_)
        | refine TRun.same rfl rfl rfl ?_
        | refine TRun.same2 rfl rfl rfl ?_
        | refine TRun.yes rfl rfl (by omega) rfl ?_
        | refine TRun.no rfl rfl (by omega) rfl ?_
        | refine TRun.split rfl rfl rfl rfl (fun h => ?_) (fun h => ?_))
    | (refine HoldsT.id ?_; first
        | refine HoldsT.seq ?_
        | refine HoldsT.regionU ?_
        | refine HoldsT.drawn tabs2 ?_
        | refine HoldsT.yes rfl ?_
        | refine HoldsT.no rfl ?_
        | refine HoldsT.cond rfl (fun h => ?_) (fun h => ?_)
        | refine HoldsT.block ?_
        | refine HoldsT.ret ?_
        | refine HoldsT.skip ?_
        | refine HoldsT.exit ?_)
    | (refine okTr_intro ?_; kernel_rfl)
    | exact absurd rfl h
    | exact Nat.le_trans (Nat.add_le_add hb2 hb3) (by decide)
    | refine allProp_C ?_ ?_
    | refine And.intro ?_ ?_
    | omega
    | (show _ < List.length _; omega)
    | exact rowlen_intro rfl
    | exact lenEq_intro rfl
    | exact Nat.le_of_ble_eq_true rfl
    | (simp only [AV.rowlenD, AV.rowlen, AV.ncells, mulSz, toN, Option.map_some, Option.map_none, cutL, List.length_take, List.length_drop, List.length_append, List.length_cons, List.length_nil, List.length_set, Option.some.injEq, Int.reduceToNat] <;> omega))
  all_goals exact FinC.te (y := .tup [.agg [.int .i64 _, .slS _, .slS _], .agg [.int .i64 _, .int .i64 _], .bool _]) rfl rfl ⟨⟨trivial, trivial, trivial, trivial⟩, ⟨trivial, trivial, trivial⟩, trivial, trivial⟩ rfl

/-- Does a space come between two parts? -/
def spacedB (a b : List UInt8) : Bool := decide (a ≠ [] ∧ b ≠ [] ∧ ((b.getD 0 0).toNat : Int) ≠ 41 ∧ ofK ((a.getD ((a.length : Int) - 1).toNat 0).toNat : Int) ≠ 0)
set_option maxRecDepth 10000 in
set_option maxHeartbeats 8000000 in
theorem q39 (a b : List UInt8) (ha : a.length ≤ 1000000000000) (hb : b.length ≤ 1000000000000) : Pure Tryd.prog 39 [.str a, .str b] (.bool (spacedB a b)) := by
  have hpa : a ≠ [] → 0 < a.length := List.length_pos_iff.2
  have hpb : b ≠ [] → 0 < b.length := List.length_pos_iff.2
  refine Pure.ofT tab2_ok Tryd.func39 rfl rfl [.tmp 4] rfl (by decide) rfl ⟨25, 5, (.node (.node (.node (.node (.node (.leaf (.str a)) (J 0)) (J 1)) (J 2)) (J 3)) (.node (.node (.node (.node (.leaf (.str b)) (J 0)) (J 1)) (J 2)) (J 3))), (OO 5)⟩ (by kernel_rfl) (by kernel_rfl) ?_
  repeat' (first
    | refine allProp_T ?_
    | exact trivial
    | (refine URun.id ?_; first
        | refine URun.nil ?_
        | refine URun.many tabs2 rfl rfl (by kernel_rfl) ?_ ?_
        | (refine URun.toCall 57 rfl ?_; first
          | refine URun.call tabs2 rfl rfl rfl rfl (p116 _) rfl rfl ?_ rfl ?_)
        | refine URun.same tabs2 rfl rfl rfl ?_
        | refine URun.same2 tabs2 rfl rfl rfl ?_
        | refine URun.split tabs2 rfl rfl rfl rfl (fun h => ?_) (fun h => ?_))
    | (refine TRun.id ?_; first
        | refine TRun.nil ?_
        | refine TRun.many rfl rfl (by kernel_rfl) ?_ ?_
        | (refine TRun.toCall 57 rfl ?_; first
          | refine TRun.call rfl rfl rfl rfl (p116 _) rfl rfl ?_ rfl ?_)
        | refine TRun.same rfl rfl rfl ?_
        | refine TRun.same2 rfl rfl rfl ?_
        | refine TRun.split rfl rfl rfl rfl (fun h => ?_) (fun h => ?_))
    | (refine HoldsT.id ?_; first
        | refine HoldsT.seq ?_
        | refine HoldsT.regionU ?_
        | refine HoldsT.drawn tabs2 ?_
        | refine HoldsT.yes rfl ?_
        | refine HoldsT.no rfl ?_
        | refine HoldsT.cond rfl (fun h => ?_) (fun h => ?_)
        | refine HoldsT.block ?_
        | refine HoldsT.ret ?_
        | refine HoldsT.skip ?_
        | refine HoldsT.exit ?_)
    | (refine okTr_intro ?_; kernel_rfl)
    | exact absurd rfl h
    | (have q1 := hpa ‹_›; omega)
    | (have q1 := hpb ‹_›; omega)
    | exact u8_in _
    | refine allProp_C ?_ ?_
    | refine And.intro ?_ ?_
    | omega
    | (show _ < List.length _; omega)
    | exact rowlen_intro rfl
    | exact lenEq_intro rfl
    | exact Nat.le_of_ble_eq_true rfl
    | (simp only [AV.rowlenD, AV.rowlen, AV.ncells, mulSz, toN, Option.map_some, Option.map_none, cutL, List.length_take, List.length_drop, List.length_append, List.length_cons, List.length_nil, List.length_set, Option.some.injEq, Int.reduceToNat] <;> omega))
  all_goals refine FinC.te (y := .bool _) rfl rfl trivial (congrArg AV.bool ?_)
  all_goals (unfold spacedB; first | exact (decide_eq_true ⟨‹_›, ‹_›, ‹_›, ‹_›⟩).symm | exact (decide_eq_false (fun hh => absurd hh.1 ‹_›)).symm | exact (decide_eq_false (fun hh => absurd hh.2.1 ‹_›)).symm | exact (decide_eq_false (fun hh => absurd hh.2.2.1 ‹_›)).symm | exact (decide_eq_false (fun hh => absurd hh.2.2.2 ‹_›)).symm)

/-- A line that is put on. -/
def joinStep (p : List UInt8 × Int) (next : List UInt8) : List UInt8 × Int :=
  if spacedB p.1 (trimL next) = true then (p.1 ++ [32] ++ trimL next, (p.1.length : Int)) else (p.1 ++ trimL next, if trimL next = [] then max ((p.1.length : Int) - 1) 0 else (p.1.length : Int))
def joinL (ls : List (List UInt8)) (l n : Int) : List UInt8 × Int := (cutL ls (some (l + 1).toNat) (some (l + n).toNat)).foldl joinStep (ls.getD l.toNat [], 0)
structure JoR where
  ok : Bool
  at' : Int
  old : List (List UInt8)
  new : List (List UInt8)
  col : Int
def JoR.av (r : JoR) : AV := .tup [.agg [.int .i64 r.at', .slS r.old, .slS r.new], .int .i64 r.col, .bool r.ok]
def joNo : JoR := ⟨false, 0, [], [], 0⟩
theorem noLeJ : AVle (.tup [.agg [.int .i64 0, .nilsl, .nilsl], .int .i64 0, .bool false]) joNo.av :=
  .tup (.cons (.agg (.cons (.refl _) (.cons .nilS (.cons .nilS .nil)))) (.cons (.refl _) (.cons (.refl _) .nil)))
def joinR (ls : List (List UInt8)) (l n : Int) : JoR :=
  if 2 ≤ n ∧ 0 ≤ l ∧ l < ls.length ∧ n ≤ (ls.length : Int) - l then ⟨true, l, midL ls l n, [(joinL ls l n).1], (joinL ls l n).2⟩ else joNo
theorem trim_le (s : List UInt8) : (trimL s).length ≤ s.length := (List.dropWhile_sublist _).length_le
theorem step_len (p : List UInt8 × Int) (x : List UInt8) : (joinStep p x).1.length ≤ p.1.length + 1 + x.length := by
  have := trim_le x
  unfold joinStep
  split <;> simp only [List.length_append, List.length_cons, List.length_nil] <;> omega
theorem foldl_take {α β : Type} (f : β → α → β) (b : β) (l : List α) (d : α) (j : Nat) (h : j < l.length) : (l.take (j + 1)).foldl f b = f ((l.take j).foldl f b) (l.getD j d) := by
  rw [List.take_add_one, List.foldl_append, List.getElem?_eq_getElem h]
  simp [h]
def sh19 (ls M : List (List UInt8)) (l n : Int) (s : List UInt8) (c j : Int) : TS := ⟨77, 7, (.node (.node (.node (.node (.node (.node (.node (.leaf (.slS ls)) (J 0)) (J 1)) (J 2)) (J 3)) (.node (J 3) (.node (.node (J 1) (.node (.leaf (.slS M)) (J 0))) (J 2)))) (.node (.node (.node (.node (.node (.leaf (.int .i64 n)) (J 0)) (J 1)) (J 2)) (.node (.node (.node (.leaf (.int .i64 c)) (J 0)) (J 1)) (J 2))) (.node (.node (.node (.node (.leaf (.ptr 6 0)) (J 0)) (J 1)) (J 2)) (.node (.node (J 1) (.node (.leaf (.int .i64 j)) (J 0))) (J 2))))) (.node (.node (.node (.node (.node (.node (.leaf (.int .i64 l)) (J 0)) (J 1)) (J 2)) (.node (.node (.node (.leaf (.str s)) (J 0)) (J 1)) (J 2))) (.node (J 3) (.node (.node (J 1) (.node (.leaf (.int .i64 (M.length : Int))) (J 0))) (J 2)))) (J 5))), (.node (.node (OO 5) (.node (OO 4) (.node (.node (.node (.node (.leaf (some ⟨true, false, .agg [.int .i64 0, .nilsl, .nilsl], 31⟩)) (OO 0)) (OO 1)) (OO 2)) (OO 3)))) (OO 6))⟩
set_option maxRecDepth 10000 in
set_option maxHeartbeats 8000000 in
theorem q19 (ls : List (List UInt8)) (l n : Int) (hL : ls.length ≤ 1000) (hB : ∀ n : Nat, (ls.getD n []).length ≤ 1000000) : Pure Tryd.prog 19 [.slS ls, .int .i64 l, .int .i64 n] (joinR ls l n).av := by
  by_cases hg : 2 ≤ n ∧ 0 ≤ l ∧ l < ls.length ∧ n ≤ (ls.length : Int) - l
  · have e : joinR ls l n = ⟨true, l, midL ls l n, [(joinL ls l n).1], (joinL ls l n).2⟩ := if_pos hg
    rw [e]
    have hb0 := hB l.toNat
    have hM : ((cutL ls (some (l + 1).toNat) (some (l + n).toNat)).length : Int) = n - 1 := by
      simp only [cutL, List.length_drop, List.length_take]; omega
    have hMB : ∀ j : Nat, ((cutL ls (some (l + 1).toNat) (some (l + n).toNat)).getD j []).length ≤ 1000000 := fun j => getD_cut_le hB _ _ j
    have k80 := fun now => p80 ls now l n (by omega) (by omega) (by omega) (by omega)
    refine Pure.ofT tab2_ok Tryd.func19 rfl rfl [.cell 6 31, .tmp 7, .tmp 8] rfl (by decide) rfl ⟨77, 7, (.node (.node (.node (.node (.node (.node (.node (.leaf (.slS ls)) (J 0)) (J 1)) (J 2)) (J 3)) (J 4)) (.node (.node (.node (.node (.node (.leaf (.int .i64 n)) (J 0)) (J 1)) (J 2)) (J 3)) (J 4))) (.node (.node (.node (.node (.node (.node (.leaf (.int .i64 l)) (J 0)) (J 1)) (J 2)) (J 3)) (J 4)) (J 5))), (OO 7)⟩ (by kernel_rfl) (by kernel_rfl) ?_
    repeat' (first
      | refine allProp_T ?_
      | exact trivial
      | (refine URun.id ?_; first
          | refine URun.nil ?_
          | refine URun.many tabs2 rfl rfl (by kernel_rfl) ?_ ?_
          | refine URun.same tabs2 rfl rfl rfl ?_
          | refine URun.same2 tabs2 rfl rfl rfl ?_
          | refine URun.yes tabs2 rfl rfl (by omega) rfl ?_
          | refine URun.no tabs2 rfl rfl (by omega) rfl ?_
          | refine URun.split tabs2 rfl rfl rfl rfl (fun h => ?_) (fun h => ?_))
      | (refine TRun.id ?_; first
          | refine TRun.nil ?_
          | refine TRun.many rfl rfl (by kernel_rfl) ?_ ?_
          | refine TRun.same rfl rfl rfl ?_
          | refine TRun.same2 rfl rfl rfl ?_
          | refine TRun.yes rfl rfl (by omega) rfl ?_
          | refine TRun.no rfl rfl (by omega) rfl ?_
          | refine TRun.split rfl rfl rfl rfl (fun h => ?_) (fun h => ?_))
      | (refine HoldsT.id ?_; first
          | refine HoldsT.seq ?_
          | refine HoldsT.regionU ?_
          | refine HoldsT.drawn tabs2 ?_
          | refine HoldsT.yes rfl ?_
          | refine HoldsT.no rfl ?_
          | refine HoldsT.cond rfl (fun h => ?_) (fun h => ?_)
          | refine HoldsT.block ?_
          | refine HoldsT.ret ?_
          | refine HoldsT.skip ?_
          | refine HoldsT.exit ?_)
      | (refine okTr_intro ?_; kernel_rfl)
      | exact absurd rfl h
      | refine allProp_C ?_ ?_
      | refine And.intro ?_ ?_
      | omega
      | (show _ < List.length _; omega)
      | exact rowlen_intro rfl
      | exact lenEq_intro rfl
      | exact Nat.le_of_ble_eq_true rfl
      | (simp only [AV.rowlenD, AV.rowlen, AV.ncells, mulSz, toN, Option.map_some, Option.map_none, cutL, List.length_take, List.length_drop, List.length_append, List.length_cons, List.length_nil, List.length_set, Option.some.injEq, Int.reduceToNat] <;> omega))
    unfold joinL
    generalize hMM : cutL ls (some (l + 1).toNat) (some (l + n).toNat) = M at *
    refine HoldsT.loop (fun x : Int × (List UInt8 × Int) => sh19 ls M l n x.2.1 x.2.2 x.1) (fun x => (n - 1 - x.1).toNat) (fun x => 0 ≤ x.1 ∧ x.1 ≤ n - 1 ∧ x.2.1.length ≤ 2000000 * (x.1.toNat + 1) ∧ x.2 = (M.take x.1.toNat).foldl joinStep (ls.getD l.toNat [], 0)) (0, (ls.getD l.toNat [], 0)) ?_ ?_ (fun _ => by kernel_rfl) ?_
    · refine WeakT.of ?_ ?_ (by kernel_rfl)
      · repeat' (first | exact TTle.junk _ _ | exact TTle.same _ | refine TTle.node ?_ ?_ | refine TTle.leaf ?_ | exact AVle.junk _ | exact AVle.rfl' rfl | exact AVle.nilS | exact AVle.nilB | exact AVle.rfl' (congrArg AV.slS hMM) | exact AVle.rfl' (congrArg (fun z => AV.int .i64 ((List.length z : Nat) : Int)) hMM))
      · repeat' (first | exact OOle.none _ _ | exact OOle.same _ | refine OOle.node ?_ ?_ | exact OOle.leaf _ | exact OOle.gone _)
    · exact ⟨by simp, by simp only; omega, by simp only; omega, rfl⟩
    · intro x hx
      obtain ⟨j, s, c⟩ := x
      obtain ⟨g1, g2, g3, g4⟩ := hx
      simp only at g1 g2 g3 g4
      have hj := hMB j.toNat
      have ht := trim_le (M.getD j.toNat [])
      have k38 := q38 (M.getD j.toNat [])
      have k39 := q39 s (trimL (M.getD j.toNat [])) (by omega) (by omega)
      have hst : j < n - 1 → (M.take (j.toNat + 1)).foldl joinStep (ls.getD l.toNat [], 0) = joinStep (s, c) (M.getD j.toNat []) := fun h => by
        rw [foldl_take joinStep _ M [] j.toNat (by omega), ← g4]
      have hsl := step_len (s, c) (M.getD j.toNat [])
      show HoldsT Tryd.prog _ (sh19 ls M l n s c j) _
      repeat' (first
        | refine allProp_T ?_
        | exact trivial
        | (refine URun.id ?_; first
            | refine URun.nil ?_
            | refine URun.many tabs2 rfl rfl (by kernel_rfl) ?_ ?_
            | (refine URun.toCall 38 rfl ?_; first
              | refine URun.call tabs2 rfl rfl rfl rfl k38 rfl rfl ?_ rfl ?_)
            | (refine URun.toCall 39 rfl ?_; first
              | refine URun.callB tabs2 rfl rfl rfl rfl k39 rfl rfl ?_ rfl rfl (fun h => ?_) (fun h => ?_))
            | (refine URun.toCall 33 rfl ?_; first
              | refine URun.call tabs2 rfl rfl rfl rfl (k80 _) rfl rfl ?_ rfl ?_)
            | refine URun.same tabs2 rfl rfl rfl ?_
            | refine URun.same2 tabs2 rfl rfl rfl ?_
            | refine URun.split tabs2 rfl rfl rfl rfl (fun h => ?_) (fun h => ?_))
        | (refine TRun.id ?_; first
            | refine TRun.nil ?_
            | refine TRun.many rfl rfl (by kernel_rfl) ?_ ?_
            | (refine TRun.toCall 38 rfl ?_; first
              | refine TRun.call rfl rfl rfl rfl k38 rfl rfl ?_ rfl ?_)
            | (refine TRun.toCall 39 rfl ?_; first
              | refine TRun.callB rfl rfl rfl rfl k39 rfl rfl ?_ rfl rfl (fun h => ?_) (fun h => ?_))
            | (refine TRun.toCall 33 rfl ?_; first
              | refine TRun.call rfl rfl rfl rfl (k80 _) rfl rfl ?_ rfl ?_)
            | refine TRun.same rfl rfl rfl ?_
            | refine TRun.same2 rfl rfl rfl ?_
            | refine TRun.split rfl rfl rfl rfl (fun h => ?_) (fun h => ?_))
        | (refine HoldsT.id ?_; first
            | refine HoldsT.seq ?_
            | refine HoldsT.regionU ?_
            | refine HoldsT.drawn tabs2 ?_
            | refine HoldsT.yes rfl ?_
            | refine HoldsT.no rfl ?_
            | refine HoldsT.cond rfl (fun h => ?_) (fun h => ?_)
            | refine HoldsT.block ?_
            | refine HoldsT.ret ?_
            | refine HoldsT.skip ?_
            | refine HoldsT.exit ?_)
        | (refine okTr_intro ?_; kernel_rfl)
        | exact absurd rfl h
        | refine allProp_C ?_ ?_
        | refine And.intro ?_ ?_
        | omega
        | (show _ < List.length _; omega)
        | exact rowlen_intro rfl
        | exact lenEq_intro rfl
        | exact Nat.le_of_ble_eq_true rfl
        | (simp only [AV.rowlenD, AV.rowlen, AV.ncells, mulSz, toN, Option.map_some, Option.map_none, cutL, List.length_take, List.length_drop, List.length_append, List.length_cons, List.length_nil, List.length_set, Option.some.injEq, Int.reduceToNat] <;> omega))
      rotate_right
      · refine FinC.te (y := .tup [.agg [.int .i64 _, .slS _, .slS _], .int .i64 _, .bool _]) rfl rfl ⟨⟨trivial, trivial, trivial, trivial⟩, trivial, trivial, trivial⟩ ?_
        have e2 : (s, c) = M.foldl joinStep (ls.getD l.toNat [], 0) := by rw [g4, List.take_of_length_le (by omega)]
        rw [← e2]; rfl
      all_goals
        have hlt : j < n - 1 := by omega
        refine ⟨(j + 1, joinStep (s, c) (M.getD j.toNat [])), ⟨by simp only; omega, by simp only; omega, by simp only; omega, by simp only; rw [toNat_succ g1]; simp only at hsl; omega, by simp only; rw [toNat_succ g1, hst hlt]⟩, ?_⟩
        have hstep : ∀ q : List UInt8 × Int, q = joinStep (s, c) (M.getD j.toNat []) → AV.str q.1 = AV.str (joinStep (s, c) (M.getD j.toNat [])).1 ∧ AV.int .i64 q.2 = AV.int .i64 (joinStep (s, c) (M.getD j.toNat [])).2 := fun q h => by rw [h]; exact ⟨rfl, rfl⟩
        first
          | (have h1 := hstep (s ++ [32] ++ trimL (M.getD j.toNat []), (s.length : Int)) (by unfold joinStep; rw [if_pos ‹_›])
             refine WeakT.of ?_ ?_ (by kernel_rfl)
             · repeat' (first | exact TTle.junk _ _ | exact TTle.same _ | refine TTle.node ?_ ?_ | refine TTle.leaf ?_ | exact AVle.junk _ | exact AVle.rfl' rfl | exact AVle.nilS | exact AVle.nilB | exact AVle.rfl' h1.1 | exact AVle.rfl' h1.2)
             · repeat' (first | exact OOle.none _ _ | exact OOle.same _ | refine OOle.node ?_ ?_ | exact OOle.leaf _ | exact OOle.gone _))
          | (have h1 := hstep (s ++ trimL (M.getD j.toNat []), max ((s.length : Int) - 1) 0) (by unfold joinStep; rw [if_neg (by rw [‹spacedB _ _ = false›]; decide), if_pos ‹_›])
             refine WeakT.of ?_ ?_ (by kernel_rfl)
             · repeat' (first | exact TTle.junk _ _ | exact TTle.same _ | refine TTle.node ?_ ?_ | refine TTle.leaf ?_ | exact AVle.junk _ | exact AVle.rfl' rfl | exact AVle.nilS | exact AVle.nilB | exact AVle.rfl' h1.1 | exact AVle.rfl' h1.2)
             · repeat' (first | exact OOle.none _ _ | exact OOle.same _ | refine OOle.node ?_ ?_ | exact OOle.leaf _ | exact OOle.gone _))
          | (have h1 := hstep (s ++ trimL (M.getD j.toNat []), (s.length : Int)) (by unfold joinStep; rw [if_neg (by rw [‹spacedB _ _ = false›]; decide), if_neg ‹_›])
             refine WeakT.of ?_ ?_ (by kernel_rfl)
             · repeat' (first | exact TTle.junk _ _ | exact TTle.same _ | refine TTle.node ?_ ?_ | refine TTle.leaf ?_ | exact AVle.junk _ | exact AVle.rfl' rfl | exact AVle.nilS | exact AVle.nilB | exact AVle.rfl' h1.1 | exact AVle.rfl' h1.2)
             · repeat' (first | exact OOle.none _ _ | exact OOle.same _ | refine OOle.node ?_ ?_ | exact OOle.leaf _ | exact OOle.gone _))
  · have e : joinR ls l n = joNo := if_neg hg
    rw [e]
    refine Pure.ofT tab2_ok Tryd.func19 rfl rfl [.cell 6 31, .tmp 7, .tmp 8] rfl (by decide) rfl ⟨77, 7, (.node (.node (.node (.node (.node (.node (.node (.leaf (.slS ls)) (J 0)) (J 1)) (J 2)) (J 3)) (J 4)) (.node (.node (.node (.node (.node (.leaf (.int .i64 n)) (J 0)) (J 1)) (J 2)) (J 3)) (J 4))) (.node (.node (.node (.node (.node (.node (.leaf (.int .i64 l)) (J 0)) (J 1)) (J 2)) (J 3)) (J 4)) (J 5))), (OO 7)⟩ (by kernel_rfl) (by kernel_rfl) ?_
    repeat' (first
      | refine allProp_T ?_
      | exact trivial
      | (refine URun.id ?_; first
          | refine URun.nil ?_
          | refine URun.many tabs2 rfl rfl (by kernel_rfl) ?_ ?_
          | refine URun.same tabs2 rfl rfl rfl ?_
          | refine URun.same2 tabs2 rfl rfl rfl ?_
          | refine URun.split tabs2 rfl rfl rfl rfl (fun h => ?_) (fun h => ?_))
      | (refine TRun.id ?_; first
          | refine TRun.nil ?_
          | refine TRun.many rfl rfl (by kernel_rfl) ?_ ?_
          | refine TRun.same rfl rfl rfl ?_
          | refine TRun.same2 rfl rfl rfl ?_
          | refine TRun.split rfl rfl rfl rfl (fun h => ?_) (fun h => ?_))
      | (refine HoldsT.id ?_; first
          | refine HoldsT.seq ?_
          | refine HoldsT.regionU ?_
          | refine HoldsT.drawn tabs2 ?_
          | refine HoldsT.yes rfl ?_
          | refine HoldsT.no rfl ?_
          | refine HoldsT.cond rfl (fun h => ?_) (fun h => ?_)
          | refine HoldsT.block ?_
          | refine HoldsT.ret ?_
          | refine HoldsT.skip ?_
          | refine HoldsT.exit ?_)
      | (refine okTr_intro ?_; kernel_rfl)
      | exact absurd rfl h
      | refine allProp_C ?_ ?_
      | refine And.intro ?_ ?_
      | omega
      | (show _ < List.length _; omega)
      | exact rowlen_intro rfl
      | exact lenEq_intro rfl
      | exact Nat.le_of_ble_eq_true rfl
      | (simp only [AV.rowlenD, AV.rowlen, AV.ncells, mulSz, toN, Option.map_some, Option.map_none, cutL, List.length_take, List.length_drop, List.length_append, List.length_cons, List.length_nil, List.length_set, Option.some.injEq, Int.reduceToNat] <;> omega))
    all_goals first
      | exact FinC.t (y := .tup [.agg [.int .i64 _, .nilsl, .nilsl], .int .i64 _, .bool _]) rfl rfl ⟨⟨trivial, trivial, trivial, trivial⟩, trivial, trivial, trivial⟩ noLeJ
      | (exfalso; omega)

end Go.Proofs.YtefbgdnobnemkaaDoor.AM
