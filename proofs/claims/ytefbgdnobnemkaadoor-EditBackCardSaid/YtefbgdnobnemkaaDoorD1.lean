/-
  A byte written over others.
-/
import Derived.Test.YtefbgdnobnemkaaDoorFA
set_option linter.unusedSimpArgs false
set_option linter.unusedVariables false
set_option linter.unusedSectionVars false
namespace Go.Proofs.YtefbgdnobnemkaaDoor.AM
open Go Go.RowKit


set_option maxRecDepth 10000 in
set_option maxHeartbeats 8000000 in
theorem q36 : Pure Tryd.prog 36 [] (.tup [.agg [.int .i64 0, .nilsl, .nilsl], .bool false]) := by
  refine Pure.ofT tab2_ok Tryd.func36 rfl rfl [.cell 0 31, .tmp 1] rfl (by decide) rfl ⟨3, 2, (J 2), (OO 2)⟩ (by kernel_rfl) (by kernel_rfl) ?_
  repeat' (first
    | refine allProp_T ?_
    | exact trivial
    | (refine URun.id ?_; first
        | refine URun.nil ?_
        | refine URun.many tabs2 rfl rfl (by kernel_rfl) ?_ ?_
        | refine URun.same tabs2 rfl rfl rfl ?_
        | refine URun.same2 tabs2 rfl rfl rfl ?_
        | refine URun.split tabs2 rfl rfl rfl rfl (fun h => ?_) (fun h => ?_))
    | (refine TRun.id ?_; first
        | refine TRun.nil ?_
        | refine TRun.many rfl rfl (by kernel_rfl) ?_ ?_
        | refine TRun.same rfl rfl rfl ?_
        | refine TRun.same2 rfl rfl rfl ?_
        | refine TRun.split rfl rfl rfl rfl (fun h => ?_) (fun h => ?_))
    | (refine HoldsT.id ?_; first
        | refine HoldsT.seq ?_
        | refine HoldsT.regionU ?_
        | refine HoldsT.drawn tabs2 ?_
        | refine HoldsT.yes rfl ?_
        | refine HoldsT.no rfl ?_
        | refine HoldsT.cond rfl (fun h => ?_) (fun h => ?_)
        | refine HoldsT.block ?_
        | refine HoldsT.ret ?_
        | refine HoldsT.skip ?_
        | refine HoldsT.exit ?_)
    | (refine okTr_intro ?_; kernel_rfl)
    | exact absurd rfl h
    | refine allProp_C ?_ ?_
    | refine And.intro ?_ ?_
    | omega
    | (show _ < List.length _; omega)
    | exact rowlen_intro rfl
    | exact lenEq_intro rfl
    | exact Nat.le_of_ble_eq_true rfl
    | (simp only [AV.rowlenD, AV.rowlen, AV.ncells, mulSz, toN, Option.map_some, Option.map_none, cutL, List.length_take, List.length_drop, List.length_append, List.length_cons, List.length_nil, List.length_set, Option.some.injEq, Int.reduceToNat] <;> omega))
  exact FinC.te (y := .tup [.agg [.int .i64 _, .nilsl, .nilsl], .bool _]) rfl rfl ⟨⟨trivial, trivial, trivial, trivial⟩, trivial, trivial⟩ rfl

set_option maxRecDepth 10000 in
set_option maxHeartbeats 8000000 in
theorem q15 (a b : Int) (o n o2 n2 : List (List UInt8)) (x y : Bool) (h1 : o.length ≤ 1000000000000) (h2 : n.length ≤ 1000000000000) (e : x = y ∧ a = b ∧ o = o2 ∧ n = n2) : Pure Tryd.prog 15 [.agg [.int .i64 a, .slS o, .slS n], .bool x, .agg [.int .i64 b, .slS o2, .slS n2], .bool y] (.bool true) := by
  obtain ⟨rfl, rfl, rfl, rfl⟩ := e
  have k37 : Pure Tryd.prog 30 [.agg [.int .i64 a, .slS o, .slS n], .agg [.int .i64 a, .slS o, .slS n]] (.bool true) := by
    have h := p37 a a o n o n h1 h2
    rwa [decide_eq_true rfl, decide_eq_true rfl, decide_eq_true rfl] at h
  refine Pure.ofT tab2_ok Tryd.func15 rfl rfl [.tmp 8] rfl (by decide) rfl ⟨17, 5, (.node (.node (.node (.node (.node (.leaf (.agg [.int .i64 a, .slS o, .slS n])) (J 0)) (J 1)) (J 2)) (.node (.node (.node (.leaf (.agg [.int .i64 a, .slS o, .slS n])) (J 0)) (J 1)) (J 2))) (.node (.node (.node (.node (.leaf (.bool x)) (J 0)) (J 1)) (J 2)) (.node (.node (.node (.leaf (.bool x)) (J 0)) (J 1)) (J 2)))), (OO 5)⟩ (by kernel_rfl) (by kernel_rfl) ?_
  repeat' (first
    | refine allProp_T ?_
    | exact trivial
    | (refine URun.id ?_; first
        | refine URun.nil ?_
        | refine URun.many tabs2 rfl rfl (by kernel_rfl) ?_ ?_
        | (refine URun.toCall 30 rfl ?_; first
          | refine URun.call tabs2 rfl rfl rfl rfl k37 rfl rfl ?_ rfl ?_)
        | refine URun.same tabs2 rfl rfl rfl ?_
        | refine URun.same2 tabs2 rfl rfl rfl ?_
        | refine URun.yes tabs2 rfl rfl rfl rfl ?_
        | refine URun.no tabs2 rfl rfl rfl rfl ?_
        | refine URun.split tabs2 rfl rfl rfl rfl (fun h => ?_) (fun h => ?_))
    | (refine TRun.id ?_; first
        | refine TRun.nil ?_
        | refine TRun.many rfl rfl (by kernel_rfl) ?_ ?_
        | (refine TRun.toCall 30 rfl ?_; first
          | refine TRun.call rfl rfl rfl rfl k37 rfl rfl ?_ rfl ?_)
        | refine TRun.same rfl rfl rfl ?_
        | refine TRun.same2 rfl rfl rfl ?_
        | refine TRun.yes rfl rfl rfl rfl ?_
        | refine TRun.no rfl rfl rfl rfl ?_
        | refine TRun.split rfl rfl rfl rfl (fun h => ?_) (fun h => ?_))
    | (refine HoldsT.id ?_; first
        | refine HoldsT.seq ?_
        | refine HoldsT.regionU ?_
        | refine HoldsT.drawn tabs2 ?_
        | refine HoldsT.yes rfl ?_
        | refine HoldsT.no rfl ?_
        | refine HoldsT.cond rfl (fun h => ?_) (fun h => ?_)
        | refine HoldsT.block ?_
        | refine HoldsT.ret ?_
        | refine HoldsT.skip ?_
        | refine HoldsT.exit ?_)
    | (refine okTr_intro ?_; kernel_rfl)
    | exact absurd rfl h
    | refine allProp_C ?_ ?_
    | refine And.intro ?_ ?_
    | omega
    | (show _ < List.length _; omega)
    | exact rowlen_intro rfl
    | exact lenEq_intro rfl
    | exact Nat.le_of_ble_eq_true rfl
    | (simp only [AV.rowlenD, AV.rowlen, AV.ncells, mulSz, toN, Option.map_some, Option.map_none, cutL, List.length_take, List.length_drop, List.length_append, List.length_cons, List.length_nil, List.length_set, Option.some.injEq, Int.reduceToNat] <;> omega))
  all_goals exact FinC.te (y := .bool true) rfl rfl trivial rfl

/-- A byte, n times. -/
theorem fill_all (x : UInt8) (n : Nat) : turnL (fun _ => x) (List.replicate n 0) 0 n = List.replicate n x := by
  apply List.ext_getElem (by simp [turn_len])
  intro i h1 h2
  simp only [turnL, List.getElem_mapIdx, List.getElem_replicate]
  rw [if_pos (by simp at h2; omega)]
theorem over_turn (x : UInt8) (s : List UInt8) (c n : Nat) (h : c + n ≤ s.length) : s.take c ++ List.replicate n x ++ s.drop (c + n) = turnL (fun _ => x) s c (c + n) := by
  apply List.ext_getElem?
  intro i
  have hl : (s.take c).length = c := by rw [List.length_take]; omega
  have hr : (List.replicate n x).length = n := List.length_replicate
  unfold turnL
  rw [List.getElem?_mapIdx, List.append_assoc, List.getElem?_append, hl, List.getElem?_append, hr]
  by_cases c1 : i < c
  · rw [if_pos c1, List.getElem?_take_of_lt c1, List.getElem?_eq_getElem (by omega), Option.map_some, if_neg (by omega)]
  · rw [if_neg c1]
    by_cases c2 : i - c < n
    · rw [if_pos c2, List.getElem?_replicate, if_pos c2, List.getElem?_eq_getElem (by omega), Option.map_some, if_pos (by omega)]
    · rw [if_neg c2, List.getElem?_drop, show c + n + (i - c - n) = i by omega]
      rcases Nat.lt_or_ge i s.length with h3 | h3
      · rw [List.getElem?_eq_getElem h3, Option.map_some, if_neg (by omega)]
      · rw [List.getElem?_eq_none h3]; rfl

def sh37 (k n i : Int) (d : List UInt8) : TS := ⟨20, 5, (.node (.node (.node (.node (.node (.leaf (.int .u8 k)) (J 0)) (J 1)) (J 2)) (.node (J 2) (.node (.node (.leaf (.int .i64 i)) (J 0)) (J 1)))) (.node (.node (.node (.node (.leaf (.int .i64 n)) (J 0)) (J 1)) (.node (.node (.leaf (.own 8 d.length)) (J 0)) (J 1))) (J 3))), (.node (.node (.node (.node (OO 1) (.node (.leaf (some ⟨true, true, .slB d, 5⟩)) (OO 0))) (OO 2)) (OO 3)) (OO 4))⟩
set_option maxRecDepth 10000 in
set_option maxHeartbeats 8000000 in
theorem q37 (k n : Int) (hk : inK .u8 k) (h0 : 0 ≤ n) (hn : n ≤ 1000000000000) : Pure Tryd.prog 37 [.int .u8 k, .int .i64 n] (.str (List.replicate n.toNat (UInt8.ofNat k.toNat))) := by
  have hk0 : 0 ≤ k ∧ k ≤ 255 := hk
  refine Pure.ofT tab2_ok Tryd.func37 rfl rfl [.tmp 4] rfl (by decide) rfl ⟨20, 5, (.node (.node (.node (.node (.node (.leaf (.int .u8 k)) (J 0)) (J 1)) (J 2)) (J 3)) (.node (.node (.node (.node (.leaf (.int .i64 n)) (J 0)) (J 1)) (J 2)) (J 3))), (OO 5)⟩ (by kernel_rfl) (by kernel_rfl) ?_
  repeat' (first
    | refine allProp_T ?_
    | exact trivial
    | (refine URun.id ?_; first
        | refine URun.nil ?_
        | refine URun.many tabs2 rfl rfl (by kernel_rfl) ?_ ?_
        | refine URun.same tabs2 rfl rfl rfl ?_
        | refine URun.same2 tabs2 rfl rfl rfl ?_
        | refine URun.split tabs2 rfl rfl rfl rfl (fun h => ?_) (fun h => ?_))
    | (refine TRun.id ?_; first
        | refine TRun.nil ?_
        | refine TRun.many rfl rfl (by kernel_rfl) ?_ ?_
        | refine TRun.same rfl rfl rfl ?_
        | refine TRun.same2 rfl rfl rfl ?_
        | refine TRun.split rfl rfl rfl rfl (fun h => ?_) (fun h => ?_))
    | (refine HoldsT.id ?_; first
        | refine HoldsT.seq ?_
        | refine HoldsT.regionU ?_
        | refine HoldsT.drawn tabs2 ?_
        | refine HoldsT.yes rfl ?_
        | refine HoldsT.no rfl ?_
        | refine HoldsT.cond rfl (fun h => ?_) (fun h => ?_)
        | refine HoldsT.block ?_
        | refine HoldsT.ret ?_
        | refine HoldsT.skip ?_
        | refine HoldsT.exit ?_)
    | (refine okTr_intro ?_; kernel_rfl)
    | exact absurd rfl h
    | refine allProp_C ?_ ?_
    | refine And.intro ?_ ?_
    | omega
    | (show _ < List.length _; omega)
    | exact rowlen_intro rfl
    | exact lenEq_intro rfl
    | exact Nat.le_of_ble_eq_true rfl
    | (simp only [AV.rowlenD, AV.rowlen, AV.ncells, mulSz, toN, Option.map_some, Option.map_none, cutL, List.length_take, List.length_drop, List.length_append, List.length_cons, List.length_nil, List.length_set, Option.some.injEq, Int.reduceToNat] <;> omega))
  refine HoldsT.loop (fun x : Int × List UInt8 => sh37 k n x.1 x.2) (fun x => (n - x.1).toNat) (fun x => 0 ≤ x.1 ∧ x.1 ≤ n ∧ x.2 = turnL (fun _ => UInt8.ofNat k.toNat) (List.replicate n.toNat 0) 0 x.1.toNat) (0, List.replicate n.toNat 0) ?_ ?_ (fun _ => by kernel_rfl) ?_
  · refine WeakT.of ?_ ?_ (by kernel_rfl)
    · repeat' (first | exact TTle.junk _ _ | exact TTle.same _ | refine TTle.node ?_ ?_ | refine TTle.leaf ?_ | exact AVle.junk _ | exact AVle.rfl' rfl | exact AVle.nilS | exact AVle.nilB | exact AVle.rfl' (congrArg (AV.own 8) List.length_replicate.symm))
    · repeat' (first | exact OOle.none _ _ | exact OOle.same _ | refine OOle.node ?_ ?_ | exact OOle.leaf _ | exact OOle.gone _)
  · exact ⟨by simp, by simp only; omega, (turn_none _ _ _).symm⟩
  · intro x hx
    obtain ⟨i, d⟩ := x
    obtain ⟨g1, g2, g3⟩ := hx
    simp only at g1 g2 g3
    have hd : d.length = n.toNat := by rw [g3, turn_len, List.length_replicate]
    show HoldsT Tryd.prog _ (sh37 k n i d) _
    repeat' (first
      | refine allProp_T ?_
      | exact trivial
      | (refine URun.id ?_; first
          | refine URun.nil ?_
          | refine URun.many tabs2 rfl rfl (by kernel_rfl) ?_ ?_
          | refine URun.same tabs2 rfl rfl rfl ?_
          | refine URun.same2 tabs2 rfl rfl rfl ?_
          | refine URun.split tabs2 rfl rfl rfl rfl (fun h => ?_) (fun h => ?_))
      | (refine TRun.id ?_; first
          | refine TRun.nil ?_
          | refine TRun.many rfl rfl (by kernel_rfl) ?_ ?_
          | refine TRun.same rfl rfl rfl ?_
          | refine TRun.same2 rfl rfl rfl ?_
          | refine TRun.split rfl rfl rfl rfl (fun h => ?_) (fun h => ?_))
      | (refine HoldsT.id ?_; first
          | refine HoldsT.seq ?_
          | refine HoldsT.regionU ?_
          | refine HoldsT.drawn tabs2 ?_
          | refine HoldsT.yes rfl ?_
          | refine HoldsT.no rfl ?_
          | refine HoldsT.cond rfl (fun h => ?_) (fun h => ?_)
          | refine HoldsT.block ?_
          | refine HoldsT.ret ?_
          | refine HoldsT.skip ?_
          | refine HoldsT.exit ?_)
      | (refine okTr_intro ?_; kernel_rfl)
      | exact absurd rfl h
      | refine allProp_C ?_ ?_
      | refine And.intro ?_ ?_
      | omega
      | (show _ < List.length _; omega)
      | exact rowlen_intro rfl
      | exact lenEq_intro rfl
      | exact Nat.le_of_ble_eq_true rfl
      | (simp only [AV.rowlenD, AV.rowlen, AV.ncells, mulSz, toN, Option.map_some, Option.map_none, cutL, List.length_take, List.length_drop, List.length_append, List.length_cons, List.length_nil, List.length_set, Option.some.injEq, Int.reduceToNat] <;> omega))
    · refine ⟨(i + 1, d.set i.toNat (UInt8.ofNat k.toNat)), ⟨by simp only at *; omega, by simp only at *; omega, by simp only at *; omega, ?_⟩, ?_⟩
      · simp only
        rw [g3, show (i + 1).toNat = i.toNat + 1 by omega]
        exact turn_step (fun _ => UInt8.ofNat k.toNat) _ (by omega) (by simp; omega)
      · refine WeakT.of ?_ ?_ (by kernel_rfl)
        · repeat' (first | exact TTle.junk _ _ | exact TTle.same _ | refine TTle.node ?_ ?_ | refine TTle.leaf ?_ | exact AVle.junk _ | exact AVle.rfl' rfl | exact AVle.nilS | exact AVle.nilB | exact AVle.rfl' (congrArg (AV.own 8) (List.length_set ..).symm))
        · repeat' (first | exact OOle.none _ _ | exact OOle.same _ | refine OOle.node ?_ ?_ | exact OOle.leaf _ | exact OOle.gone _)
    · refine FinC.te (y := .str _) rfl rfl trivial (congrArg AV.str ?_)
      rw [g3, show i = n by omega, fill_all]

/-- A byte written over others. -/
def overR (ls : List (List UInt8)) (l c k n : Int) : ChR :=
  if placeL ls l c = true ∧ 1 ≤ n ∧ n ≤ ((ls.getD l.toNat []).length : Int) - c then ⟨true, l, midL ls l 1, [turnL (fun _ => UInt8.ofNat k.toNat) (ls.getD l.toNat []) c.toNat (c + n).toNat]⟩ else chNo
def sh16 (ls : List (List UInt8)) (l c k n i : Int) (d : List UInt8) : TS := ⟨59, 6, (.node (.node (.node (.node (.node (.node (.leaf (.slS ls)) (J 0)) (J 1)) (.node (.node (.leaf (.ptr 8 0)) (.leaf (.int .i64 n))) (J 1))) (J 3)) (.node (.node (.node (.node (.leaf (.int .u8 k)) (J 0)) (J 1)) (.node (.node (.leaf (.own 39 d.length)) (J 0)) (J 1))) (J 3))) (.node (.node (.node (J 2) (.node (.node (J 0) (.leaf (.int .i64 i))) (J 1))) (.node (.node (.node (.leaf (.ptr 5 0)) (J 0)) (J 1)) (J 2))) (J 4))), (.node (.node (.node (.node (OO 2) (.node (.node (.leaf (some ⟨true, false, .agg [.int .i64 0, .nilsl, .nilsl], 31⟩)) (OO 0)) (OO 1))) (OO 3)) (OO 4)) (.node (.node (OO 3) (.node (.node (.node (.leaf (some ⟨true, false, .agg [.int .i64 l, .int .i64 c], 24⟩)) (OO 0)) (OO 1)) (OO 2))) (.node (OO 3) (.node (.node (.node (OO 0) (.leaf (some ⟨true, false, .slB d, 5⟩))) (OO 1)) (OO 2)))))⟩
set_option maxRecDepth 10000 in
set_option maxHeartbeats 8000000 in
theorem q16 (ls : List (List UInt8)) (l c k n : Int) (hL : ls.length ≤ 1000000000) (hB : ∀ n : Nat, (ls.getD n []).length ≤ 1000000000000) (hk : inK .u8 k) : Pure Tryd.prog 16 [.slS ls, .agg [.int .i64 l, .int .i64 c], .int .u8 k, .int .i64 n] (overR ls l c k n).av := by
  have hk0 : 0 ≤ k ∧ k ≤ 255 := hk
  have k58 := p58 ls l c
  cases hp : placeL ls l c with
  | false =>
    rw [hp] at k58
    have e : overR ls l c k n = chNo := if_neg (fun h => by rw [hp] at h; exact absurd h.1 (by decide))
    rw [e]
    refine Pure.ofT tab2_ok Tryd.func16 rfl rfl [.cell 8 31, .tmp 9] rfl (by decide) rfl ⟨59, 6, (.node (.node (.node (.node (.node (.node (.leaf (.slS ls)) (J 0)) (J 1)) (J 2)) (J 3)) (.node (.node (.node (.node (.leaf (.int .u8 k)) (J 0)) (J 1)) (J 2)) (J 3))) (.node (.node (.node (.node (.node (.leaf (.agg [.int .i64 l, .int .i64 c])) (J 0)) (J 1)) (J 2)) (J 3)) (.node (.node (.node (.node (.leaf (.int .i64 n)) (J 0)) (J 1)) (J 2)) (J 3)))), (OO 6)⟩ (by kernel_rfl) (by kernel_rfl) ?_
    repeat' (first
      | refine allProp_T ?_
      | exact trivial
      | (refine URun.id ?_; first
          | refine URun.nil ?_
          | refine URun.many tabs2 rfl rfl (by kernel_rfl) ?_ ?_
          | (refine URun.toCall 31 rfl ?_; first
            | refine URun.call tabs2 rfl rfl rfl rfl k58 rfl rfl ?_ rfl ?_)
          | refine URun.same tabs2 rfl rfl rfl ?_
          | refine URun.same2 tabs2 rfl rfl rfl ?_
          | refine URun.split tabs2 rfl rfl rfl rfl (fun h => ?_) (fun h => ?_))
      | (refine TRun.id ?_; first
          | refine TRun.nil ?_
          | refine TRun.many rfl rfl (by kernel_rfl) ?_ ?_
          | (refine TRun.toCall 31 rfl ?_; first
            | refine TRun.call rfl rfl rfl rfl k58 rfl rfl ?_ rfl ?_)
          | refine TRun.same rfl rfl rfl ?_
          | refine TRun.same2 rfl rfl rfl ?_
          | refine TRun.split rfl rfl rfl rfl (fun h => ?_) (fun h => ?_))
      | (refine HoldsT.id ?_; first
          | refine HoldsT.seq ?_
          | refine HoldsT.regionU ?_
          | refine HoldsT.drawn tabs2 ?_
          | refine HoldsT.yes rfl ?_
          | refine HoldsT.no rfl ?_
          | refine HoldsT.cond rfl (fun h => ?_) (fun h => ?_)
          | refine HoldsT.block ?_
          | refine HoldsT.ret ?_
          | refine HoldsT.skip ?_
          | refine HoldsT.exit ?_)
      | (refine okTr_intro ?_; kernel_rfl)
      | exact absurd rfl h
      | refine allProp_C ?_ ?_
      | refine And.intro ?_ ?_
      | omega
      | (show _ < List.length _; omega)
      | exact rowlen_intro rfl
      | exact lenEq_intro rfl
      | exact Nat.le_of_ble_eq_true rfl
      | (simp only [AV.rowlenD, AV.rowlen, AV.ncells, mulSz, toN, Option.map_some, Option.map_none, cutL, List.length_take, List.length_drop, List.length_append, List.length_cons, List.length_nil, List.length_set, Option.some.injEq, Int.reduceToNat] <;> omega))
    all_goals exact FinC.t (y := .tup [.agg [.int .i64 _, .nilsl, .nilsl], .bool _]) rfl rfl ⟨⟨trivial, trivial, trivial, trivial⟩, trivial, trivial⟩ noLeC
  | true =>
    rw [hp] at k58
    obtain ⟨q1, q2, q3, q4⟩ := of_decide_eq_true hp
    have hb := hB l.toNat
    by_cases hn : 1 ≤ n ∧ n ≤ ((ls.getD l.toNat []).length : Int) - c
    · have e : overR ls l c k n = ⟨true, l, midL ls l 1, [turnL (fun _ => UInt8.ofNat k.toNat) (ls.getD l.toNat []) c.toNat (c + n).toNat]⟩ := if_pos ⟨hp, hn⟩
      rw [e]
      refine Pure.ofT tab2_ok Tryd.func16 rfl rfl [.cell 8 31, .tmp 9] rfl (by decide) rfl ⟨59, 6, (.node (.node (.node (.node (.node (.node (.leaf (.slS ls)) (J 0)) (J 1)) (J 2)) (J 3)) (.node (.node (.node (.node (.leaf (.int .u8 k)) (J 0)) (J 1)) (J 2)) (J 3))) (.node (.node (.node (.node (.node (.leaf (.agg [.int .i64 l, .int .i64 c])) (J 0)) (J 1)) (J 2)) (J 3)) (.node (.node (.node (.node (.leaf (.int .i64 n)) (J 0)) (J 1)) (J 2)) (J 3)))), (OO 6)⟩ (by kernel_rfl) (by kernel_rfl) ?_
      repeat' (first
        | refine allProp_T ?_
        | exact trivial
        | (refine URun.id ?_; first
            | refine URun.nil ?_
            | refine URun.many tabs2 rfl rfl (by kernel_rfl) ?_ ?_
            | (refine URun.toCall 31 rfl ?_; first
              | refine URun.call tabs2 rfl rfl rfl rfl k58 rfl rfl ?_ rfl ?_)
            | refine URun.same tabs2 rfl rfl rfl ?_
            | refine URun.same2 tabs2 rfl rfl rfl ?_
            | refine URun.yes tabs2 rfl rfl (by omega) rfl ?_
            | refine URun.no tabs2 rfl rfl (by omega) rfl ?_
            | refine URun.split tabs2 rfl rfl rfl rfl (fun h => ?_) (fun h => ?_))
        | (refine TRun.id ?_; first
            | refine TRun.nil ?_
            | refine TRun.many rfl rfl (by kernel_rfl) ?_ ?_
            | (refine TRun.toCall 31 rfl ?_; first
              | refine TRun.call rfl rfl rfl rfl k58 rfl rfl ?_ rfl ?_)
            | refine TRun.same rfl rfl rfl ?_
            | refine TRun.same2 rfl rfl rfl ?_
            | refine TRun.yes rfl rfl (by omega) rfl ?_
            | refine TRun.no rfl rfl (by omega) rfl ?_
            | refine TRun.split rfl rfl rfl rfl (fun h => ?_) (fun h => ?_))
        | (refine HoldsT.id ?_; first
            | refine HoldsT.seq ?_
            | refine HoldsT.regionU ?_
            | refine HoldsT.drawn tabs2 ?_
            | refine HoldsT.yes rfl ?_
            | refine HoldsT.no rfl ?_
            | refine HoldsT.cond rfl (fun h => ?_) (fun h => ?_)
            | refine HoldsT.block ?_
            | refine HoldsT.ret ?_
            | refine HoldsT.skip ?_
            | refine HoldsT.exit ?_)
        | (refine okTr_intro ?_; kernel_rfl)
        | exact absurd rfl h
        | refine allProp_C ?_ ?_
        | refine And.intro ?_ ?_
        | omega
        | (show _ < List.length _; omega)
        | exact rowlen_intro rfl
        | exact lenEq_intro rfl
        | exact Nat.le_of_ble_eq_true rfl
        | (simp only [AV.rowlenD, AV.rowlen, AV.ncells, mulSz, toN, Option.map_some, Option.map_none, cutL, List.length_take, List.length_drop, List.length_append, List.length_cons, List.length_nil, List.length_set, Option.some.injEq, Int.reduceToNat] <;> omega))
      refine HoldsT.loop (fun x : Int × List UInt8 => sh16 ls l c k n x.1 x.2) (fun x => (n - x.1).toNat) (fun x => 0 ≤ x.1 ∧ x.1 ≤ n ∧ x.2 = turnL (fun _ => UInt8.ofNat k.toNat) (ls.getD l.toNat []) c.toNat (c + x.1).toNat) (0, ls.getD l.toNat []) ?_ ?_ (fun _ => by kernel_rfl) ?_
      · refine WeakT.of ?_ ?_ (by kernel_rfl)
        · repeat' (first | exact TTle.junk _ _ | exact TTle.same _ | refine TTle.node ?_ ?_ | refine TTle.leaf ?_ | exact AVle.junk _ | exact AVle.rfl' rfl | exact AVle.nilS | exact AVle.nilB)
        · repeat' (first | exact OOle.none _ _ | exact OOle.same _ | refine OOle.node ?_ ?_ | exact OOle.leaf _ | exact OOle.gone _)
      · exact ⟨by simp, by simp only; omega, by simp only [Int.add_zero]; exact (turn_none _ _ _).symm⟩
      · intro x hx
        obtain ⟨i, d⟩ := x
        obtain ⟨g1, g2, g3⟩ := hx
        simp only at g1 g2 g3
        have hd : d.length = (ls.getD l.toNat []).length := by rw [g3, turn_len]
        have k80 := p80 ls [d] l 1 (by omega) (by omega) (by omega) (by omega)
        show HoldsT Tryd.prog _ (sh16 ls l c k n i d) _
        repeat' (first
          | refine allProp_T ?_
          | exact trivial
          | (refine URun.id ?_; first
              | refine URun.nil ?_
              | refine URun.many tabs2 rfl rfl (by kernel_rfl) ?_ ?_
              | (refine URun.toCall 33 rfl ?_; first
                | refine URun.call tabs2 rfl rfl rfl rfl k80 rfl rfl ?_ rfl ?_)
              | refine URun.same tabs2 rfl rfl rfl ?_
              | refine URun.same2 tabs2 rfl rfl rfl ?_
              | refine URun.split tabs2 rfl rfl rfl rfl (fun h => ?_) (fun h => ?_))
          | (refine TRun.id ?_; first
              | refine TRun.nil ?_
              | refine TRun.many rfl rfl (by kernel_rfl) ?_ ?_
              | (refine TRun.toCall 33 rfl ?_; first
                | refine TRun.call rfl rfl rfl rfl k80 rfl rfl ?_ rfl ?_)
              | refine TRun.same rfl rfl rfl ?_
              | refine TRun.same2 rfl rfl rfl ?_
              | refine TRun.split rfl rfl rfl rfl (fun h => ?_) (fun h => ?_))
          | (refine HoldsT.id ?_; first
              | refine HoldsT.seq ?_
              | refine HoldsT.regionU ?_
              | refine HoldsT.drawn tabs2 ?_
              | refine HoldsT.yes rfl ?_
              | refine HoldsT.no rfl ?_
              | refine HoldsT.cond rfl (fun h => ?_) (fun h => ?_)
              | refine HoldsT.block ?_
              | refine HoldsT.ret ?_
              | refine HoldsT.skip ?_
              | refine HoldsT.exit ?_)
          | (refine okTr_intro ?_; kernel_rfl)
          | exact absurd rfl h
          | refine allProp_C ?_ ?_
          | refine And.intro ?_ ?_
          | omega
          | (show _ < List.length _; omega)
          | exact rowlen_intro rfl
          | exact lenEq_intro rfl
          | exact Nat.le_of_ble_eq_true rfl
          | (simp only [AV.rowlenD, AV.rowlen, AV.ncells, mulSz, toN, Option.map_some, Option.map_none, cutL, List.length_take, List.length_drop, List.length_append, List.length_cons, List.length_nil, List.length_set, Option.some.injEq, Int.reduceToNat] <;> omega))
        · refine ⟨(i + 1, d.set (c + i).toNat (UInt8.ofNat k.toNat)), ⟨by simp only at *; omega, by simp only at *; omega, by simp only at *; omega, ?_⟩, ?_⟩
          · simp only
            rw [g3, show (c + (i + 1)).toNat = (c + i).toNat + 1 by omega]
            exact turn_step (fun _ => UInt8.ofNat k.toNat) _ (by omega) (by omega)
          · refine WeakT.of ?_ ?_ (by kernel_rfl)
            · repeat' (first | exact TTle.junk _ _ | exact TTle.same _ | refine TTle.node ?_ ?_ | refine TTle.leaf ?_ | exact AVle.junk _ | exact AVle.rfl' rfl | exact AVle.nilS | exact AVle.nilB | exact AVle.rfl' (congrArg (AV.own 39) (List.length_set ..).symm))
            · repeat' (first | exact OOle.none _ _ | exact OOle.same _ | refine OOle.node ?_ ?_ | exact OOle.leaf _ | exact OOle.gone _)
        · refine FinC.t (y := .tup [.agg [.int .i64 _, .slS _, .slS _], .bool _]) rfl rfl ⟨⟨trivial, trivial, trivial, trivial⟩, trivial, trivial⟩ (AVle.rfl' ?_)
          rw [g3, show i = n by omega]; rfl
    · have e : overR ls l c k n = chNo := if_neg (fun h => hn h.2)
      rw [e]
      refine Pure.ofT tab2_ok Tryd.func16 rfl rfl [.cell 8 31, .tmp 9] rfl (by decide) rfl ⟨59, 6, (.node (.node (.node (.node (.node (.node (.leaf (.slS ls)) (J 0)) (J 1)) (J 2)) (J 3)) (.node (.node (.node (.node (.leaf (.int .u8 k)) (J 0)) (J 1)) (J 2)) (J 3))) (.node (.node (.node (.node (.node (.leaf (.agg [.int .i64 l, .int .i64 c])) (J 0)) (J 1)) (J 2)) (J 3)) (.node (.node (.node (.node (.leaf (.int .i64 n)) (J 0)) (J 1)) (J 2)) (J 3)))), (OO 6)⟩ (by kernel_rfl) (by kernel_rfl) ?_
      repeat' (first
        | refine allProp_T ?_
        | exact trivial
        | (refine URun.id ?_; first
            | refine URun.nil ?_
            | refine URun.many tabs2 rfl rfl (by kernel_rfl) ?_ ?_
            | (refine URun.toCall 31 rfl ?_; first
              | refine URun.call tabs2 rfl rfl rfl rfl k58 rfl rfl ?_ rfl ?_)
            | refine URun.same tabs2 rfl rfl rfl ?_
            | refine URun.same2 tabs2 rfl rfl rfl ?_
            | refine URun.split tabs2 rfl rfl rfl rfl (fun h => ?_) (fun h => ?_))
        | (refine TRun.id ?_; first
            | refine TRun.nil ?_
            | refine TRun.many rfl rfl (by kernel_rfl) ?_ ?_
            | (refine TRun.toCall 31 rfl ?_; first
              | refine TRun.call rfl rfl rfl rfl k58 rfl rfl ?_ rfl ?_)
            | refine TRun.same rfl rfl rfl ?_
            | refine TRun.same2 rfl rfl rfl ?_
            | refine TRun.split rfl rfl rfl rfl (fun h => ?_) (fun h => ?_))
        | (refine HoldsT.id ?_; first
            | refine HoldsT.seq ?_
            | refine HoldsT.regionU ?_
            | refine HoldsT.drawn tabs2 ?_
            | refine HoldsT.yes rfl ?_
            | refine HoldsT.no rfl ?_
            | refine HoldsT.cond rfl (fun h => ?_) (fun h => ?_)
            | refine HoldsT.block ?_
            | refine HoldsT.ret ?_
            | refine HoldsT.skip ?_
            | refine HoldsT.exit ?_)
        | (refine okTr_intro ?_; kernel_rfl)
        | exact absurd rfl h
        | refine allProp_C ?_ ?_
        | refine And.intro ?_ ?_
        | omega
        | (show _ < List.length _; omega)
        | exact rowlen_intro rfl
        | exact lenEq_intro rfl
        | exact Nat.le_of_ble_eq_true rfl
        | (simp only [AV.rowlenD, AV.rowlen, AV.ncells, mulSz, toN, Option.map_some, Option.map_none, cutL, List.length_take, List.length_drop, List.length_append, List.length_cons, List.length_nil, List.length_set, Option.some.injEq, Int.reduceToNat] <;> omega))
      all_goals first
        | exact FinC.t (y := .tup [.agg [.int .i64 _, .nilsl, .nilsl], .bool _]) rfl rfl ⟨⟨trivial, trivial, trivial, trivial⟩, trivial, trivial⟩ noLeC
        | (exfalso; omega)

set_option maxRecDepth 10000 in
set_option maxHeartbeats 8000000 in
theorem q17 (ls : List (List UInt8)) (l c k n : Int) (hL : ls.length ≤ 1000000000) (hB : ∀ n : Nat, (ls.getD n []).length ≤ 1000000000) (hk : inK .u8 k) : Pure Tryd.prog 17 [.slS ls, .agg [.int .i64 l, .int .i64 c], .int .u8 k, .int .i64 n] (overR ls l c k n).av := by
  have hk0 : 0 ≤ k ∧ k ≤ 255 := hk
  have k62 := p62 ls l c
  cases hp : placeL ls l c with
  | false =>
    rw [hp] at k62
    have e : overR ls l c k n = chNo := if_neg (fun h => by rw [hp] at h; exact absurd h.1 (by decide))
    rw [e]
    refine Pure.ofT tab2_ok Tryd.func17 rfl rfl [.cell 8 31, .tmp 9] rfl (by decide) rfl ⟨64, 6, (.node (.node (.node (.node (.node (.node (.leaf (.slS ls)) (J 0)) (J 1)) (J 2)) (J 3)) (.node (.node (.node (.node (.leaf (.int .u8 k)) (J 0)) (J 1)) (J 2)) (J 3))) (.node (.node (.node (.node (.node (.leaf (.agg [.int .i64 l, .int .i64 c])) (J 0)) (J 1)) (J 2)) (J 3)) (.node (.node (.node (.node (.leaf (.int .i64 n)) (J 0)) (J 1)) (J 2)) (J 3)))), (OO 6)⟩ (by kernel_rfl) (by kernel_rfl) ?_
    repeat' (first
      | refine allProp_T ?_
      | exact trivial
      | (refine URun.id ?_; first
          | refine URun.nil ?_
          | refine URun.many tabs2 rfl rfl (by kernel_rfl) ?_ ?_
          | (refine URun.toCall 34 rfl ?_; first
            | refine URun.call tabs2 rfl rfl rfl rfl k62 rfl rfl ?_ rfl ?_)
          | (refine URun.toCall 36 rfl ?_; first
            | refine URun.call tabs2 rfl rfl rfl rfl q36 rfl rfl ?_ rfl ?_)
          | refine URun.same tabs2 rfl rfl rfl ?_
          | refine URun.same2 tabs2 rfl rfl rfl ?_
          | refine URun.split tabs2 rfl rfl rfl rfl (fun h => ?_) (fun h => ?_))
      | (refine TRun.id ?_; first
          | refine TRun.nil ?_
          | refine TRun.many rfl rfl (by kernel_rfl) ?_ ?_
          | (refine TRun.toCall 34 rfl ?_; first
            | refine TRun.call rfl rfl rfl rfl k62 rfl rfl ?_ rfl ?_)
          | (refine TRun.toCall 36 rfl ?_; first
            | refine TRun.call rfl rfl rfl rfl q36 rfl rfl ?_ rfl ?_)
          | refine TRun.same rfl rfl rfl ?_
          | refine TRun.same2 rfl rfl rfl ?_
          | refine TRun.split rfl rfl rfl rfl (fun h => ?_) (fun h => ?_))
      | (refine HoldsT.id ?_; first
          | refine HoldsT.seq ?_
          | refine HoldsT.regionU ?_
          | refine HoldsT.drawn tabs2 ?_
          | refine HoldsT.yes rfl ?_
          | refine HoldsT.no rfl ?_
          | refine HoldsT.cond rfl (fun h => ?_) (fun h => ?_)
          | refine HoldsT.block ?_
          | refine HoldsT.ret ?_
          | refine HoldsT.skip ?_
          | refine HoldsT.exit ?_)
      | (refine okTr_intro ?_; kernel_rfl)
      | exact absurd rfl h
      | refine allProp_C ?_ ?_
      | refine And.intro ?_ ?_
      | omega
      | (show _ < List.length _; omega)
      | exact rowlen_intro rfl
      | exact lenEq_intro rfl
      | exact Nat.le_of_ble_eq_true rfl
      | (simp only [AV.rowlenD, AV.rowlen, AV.ncells, mulSz, toN, Option.map_some, Option.map_none, cutL, List.length_take, List.length_drop, List.length_append, List.length_cons, List.length_nil, List.length_set, Option.some.injEq, Int.reduceToNat] <;> omega))
    all_goals exact FinC.t (y := .tup [.agg [.int .i64 _, .nilsl, .nilsl], .bool _]) rfl rfl ⟨⟨trivial, trivial, trivial, trivial⟩, trivial, trivial⟩ noLeC
  | true =>
    rw [hp] at k62
    obtain ⟨q1, q2, q3, q4⟩ := of_decide_eq_true hp
    have hb := hB l.toNat
    by_cases hn : 1 ≤ n ∧ n ≤ ((ls.getD l.toNat []).length : Int) - c
    · have e : overR ls l c k n = ⟨true, l, midL ls l 1, [turnL (fun _ => UInt8.ofNat k.toNat) (ls.getD l.toNat []) c.toNat (c + n).toNat]⟩ := if_pos ⟨hp, hn⟩
      rw [e]
      have k37 := q37 k n hk (by omega) (by omega)
      have hrl : (List.replicate n.toNat (UInt8.ofNat k.toNat)).length = n.toNat := List.length_replicate
      have ho : cutL (ls.getD l.toNat []) none (some c.toNat) ++ List.replicate n.toNat (UInt8.ofNat k.toNat) ++ cutL (ls.getD l.toNat []) (some (c + n).toNat) none = turnL (fun _ => UInt8.ofNat k.toNat) (ls.getD l.toNat []) c.toNat (c + n).toNat := by
        have h := over_turn (UInt8.ofNat k.toNat) (ls.getD l.toNat []) c.toNat n.toNat (by omega)
        rw [show c.toNat + n.toNat = (c + n).toNat by omega] at h
        exact h
      have k77 := p77 ls [cutL (ls.getD l.toNat []) none (some c.toNat) ++ List.replicate n.toNat (UInt8.ofNat k.toNat) ++ cutL (ls.getD l.toNat []) (some (c + n).toNat) none] l l hL (by omega) (by omega) (by omega)
      rw [show l - l + 1 = 1 by omega] at k77
      rw [← ho]
      refine Pure.ofT tab2_ok Tryd.func17 rfl rfl [.cell 8 31, .tmp 9] rfl (by decide) rfl ⟨64, 6, (.node (.node (.node (.node (.node (.node (.leaf (.slS ls)) (J 0)) (J 1)) (J 2)) (J 3)) (.node (.node (.node (.node (.leaf (.int .u8 k)) (J 0)) (J 1)) (J 2)) (J 3))) (.node (.node (.node (.node (.node (.leaf (.agg [.int .i64 l, .int .i64 c])) (J 0)) (J 1)) (J 2)) (J 3)) (.node (.node (.node (.node (.leaf (.int .i64 n)) (J 0)) (J 1)) (J 2)) (J 3)))), (OO 6)⟩ (by kernel_rfl) (by kernel_rfl) ?_
      repeat' (first
        | refine allProp_T ?_
        | exact trivial
        | (refine URun.id ?_; first
            | refine URun.nil ?_
            | refine URun.many tabs2 rfl rfl (by kernel_rfl) ?_ ?_
            | (refine URun.toCall 34 rfl ?_; first
              | refine URun.call tabs2 rfl rfl rfl rfl k62 rfl rfl ?_ rfl ?_)
            | (refine URun.toCall 37 rfl ?_; first
              | refine URun.call tabs2 rfl rfl rfl rfl k37 rfl rfl ?_ rfl ?_)
            | (refine URun.toCall 35 rfl ?_; first
              | refine URun.call tabs2 rfl rfl rfl rfl k77 rfl rfl ?_ rfl ?_)
            | refine URun.same tabs2 rfl rfl rfl ?_
            | refine URun.same2 tabs2 rfl rfl rfl ?_
            | refine URun.yes tabs2 rfl rfl (by omega) rfl ?_
            | refine URun.no tabs2 rfl rfl (by omega) rfl ?_
            | refine URun.split tabs2 rfl rfl rfl rfl (fun h => ?_) (fun h => ?_))
        | (refine TRun.id ?_; first
            | refine TRun.nil ?_
            | refine TRun.many rfl rfl (by kernel_rfl) ?_ ?_
            | (refine TRun.toCall 34 rfl ?_; first
              | refine TRun.call rfl rfl rfl rfl k62 rfl rfl ?_ rfl ?_)
            | (refine TRun.toCall 37 rfl ?_; first
              | refine TRun.call rfl rfl rfl rfl k37 rfl rfl ?_ rfl ?_)
            | (refine TRun.toCall 35 rfl ?_; first
              | refine TRun.call rfl rfl rfl rfl k77 rfl rfl ?_ rfl ?_)
            | refine TRun.same rfl rfl rfl ?_
            | refine TRun.same2 rfl rfl rfl ?_
            | refine TRun.yes rfl rfl (by omega) rfl ?_
            | refine TRun.no rfl rfl (by omega) rfl ?_
            | refine TRun.split rfl rfl rfl rfl (fun h => ?_) (fun h => ?_))
        | (refine HoldsT.id ?_; first
            | refine HoldsT.seq ?_
            | refine HoldsT.regionU ?_
            | refine HoldsT.drawn tabs2 ?_
            | refine HoldsT.yes rfl ?_
            | refine HoldsT.no rfl ?_
            | refine HoldsT.cond rfl (fun h => ?_) (fun h => ?_)
            | refine HoldsT.block ?_
            | refine HoldsT.ret ?_
            | refine HoldsT.skip ?_
            | refine HoldsT.exit ?_)
        | (refine okTr_intro ?_; kernel_rfl)
        | exact absurd rfl h
        | refine allProp_C ?_ ?_
        | refine And.intro ?_ ?_
        | omega
        | (show _ < List.length _; omega)
        | exact rowlen_intro rfl
        | exact lenEq_intro rfl
        | exact Nat.le_of_ble_eq_true rfl
        | (simp only [AV.rowlenD, AV.rowlen, AV.ncells, mulSz, toN, Option.map_some, Option.map_none, cutL, List.length_take, List.length_drop, List.length_append, List.length_cons, List.length_nil, List.length_set, Option.some.injEq, Int.reduceToNat] <;> omega))
      all_goals exact FinC.te (y := .tup [.agg [.int .i64 _, .slS _, .slS _], .bool _]) rfl rfl ⟨⟨trivial, trivial, trivial, trivial⟩, trivial, trivial⟩ rfl
    · have e : overR ls l c k n = chNo := if_neg (fun h => hn h.2)
      rw [e]
      refine Pure.ofT tab2_ok Tryd.func17 rfl rfl [.cell 8 31, .tmp 9] rfl (by decide) rfl ⟨64, 6, (.node (.node (.node (.node (.node (.node (.leaf (.slS ls)) (J 0)) (J 1)) (J 2)) (J 3)) (.node (.node (.node (.node (.leaf (.int .u8 k)) (J 0)) (J 1)) (J 2)) (J 3))) (.node (.node (.node (.node (.node (.leaf (.agg [.int .i64 l, .int .i64 c])) (J 0)) (J 1)) (J 2)) (J 3)) (.node (.node (.node (.node (.leaf (.int .i64 n)) (J 0)) (J 1)) (J 2)) (J 3)))), (OO 6)⟩ (by kernel_rfl) (by kernel_rfl) ?_
      repeat' (first
        | refine allProp_T ?_
        | exact trivial
        | (refine URun.id ?_; first
            | refine URun.nil ?_
            | refine URun.many tabs2 rfl rfl (by kernel_rfl) ?_ ?_
            | (refine URun.toCall 34 rfl ?_; first
              | refine URun.call tabs2 rfl rfl rfl rfl k62 rfl rfl ?_ rfl ?_)
            | (refine URun.toCall 36 rfl ?_; first
              | refine URun.call tabs2 rfl rfl rfl rfl q36 rfl rfl ?_ rfl ?_)
            | refine URun.same tabs2 rfl rfl rfl ?_
            | refine URun.same2 tabs2 rfl rfl rfl ?_
            | refine URun.split tabs2 rfl rfl rfl rfl (fun h => ?_) (fun h => ?_))
        | (refine TRun.id ?_; first
            | refine TRun.nil ?_
            | refine TRun.many rfl rfl (by kernel_rfl) ?_ ?_
            | (refine TRun.toCall 34 rfl ?_; first
              | refine TRun.call rfl rfl rfl rfl k62 rfl rfl ?_ rfl ?_)
            | (refine TRun.toCall 36 rfl ?_; first
              | refine TRun.call rfl rfl rfl rfl q36 rfl rfl ?_ rfl ?_)
            | refine TRun.same rfl rfl rfl ?_
            | refine TRun.same2 rfl rfl rfl ?_
            | refine TRun.split rfl rfl rfl rfl (fun h => ?_) (fun h => ?_))
        | (refine HoldsT.id ?_; first
            | refine HoldsT.seq ?_
            | refine HoldsT.regionU ?_
            | refine HoldsT.drawn tabs2 ?_
            | refine HoldsT.yes rfl ?_
            | refine HoldsT.no rfl ?_
            | refine HoldsT.cond rfl (fun h => ?_) (fun h => ?_)
            | refine HoldsT.block ?_
            | refine HoldsT.ret ?_
            | refine HoldsT.skip ?_
            | refine HoldsT.exit ?_)
        | (refine okTr_intro ?_; kernel_rfl)
        | exact absurd rfl h
        | refine allProp_C ?_ ?_
        | refine And.intro ?_ ?_
        | omega
        | (show _ < List.length _; omega)
        | exact rowlen_intro rfl
        | exact lenEq_intro rfl
        | exact Nat.le_of_ble_eq_true rfl
        | (simp only [AV.rowlenD, AV.rowlen, AV.ncells, mulSz, toN, Option.map_some, Option.map_none, cutL, List.length_take, List.length_drop, List.length_append, List.length_cons, List.length_nil, List.length_set, Option.some.injEq, Int.reduceToNat] <;> omega))
      all_goals first
        | exact FinC.t (y := .tup [.agg [.int .i64 _, .nilsl, .nilsl], .bool _]) rfl rfl ⟨⟨trivial, trivial, trivial, trivial⟩, trivial, trivial⟩ noLeC
        | (exfalso; omega)

end Go.Proofs.YtefbgdnobnemkaaDoor.AM
