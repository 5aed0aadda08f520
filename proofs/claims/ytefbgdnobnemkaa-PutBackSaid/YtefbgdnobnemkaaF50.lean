/-
  What put does.
-/
import Derived.Test.YtefbgdnobnemkaaF49
set_option linter.unusedSimpArgs false
set_option linter.unusedVariables false
set_option linter.unusedSectionVars false
namespace Go.Proofs.Ytefbgdnobnemkaa.AM
open Go Go.RowKit


set_option maxRecDepth 10000 in
set_option maxHeartbeats 8000000 in
theorem p79c_true (ls rs : List (List UInt8)) (l c : Int) (hL : ls.length ≤ 1000000000) (hB : ∀ n : Nat, (ls.getD n []).length ≤ 1000000) (hp : placeL ls l c = true) (n : Int) (hr : rs.length ≤ 4096) (h0 : 0 < rs.length) (hR : ∀ n : Nat, (rs.getD n []).length ≤ 4096) (hn : 1 ≤ n) (hn2 : n ≤ 9999) :
    Pure Try.prog 79 [.slS ls, .agg [.int .i64 l, .int .i64 c], .agg [.int .i64 0, .slS rs], .bool true, .int .i64 n] (TyR.av ⟨true, l, midL ls l 1, writeL (ls.getD l.toNat []) (c) (glueN rs (n - 1).toNat), l, chC (c) (glueN rs (n - 1).toNat)⟩) := by
  obtain ⟨hq1, hq2, hq3, hq4⟩ := of_decide_eq_true hp
  have hb := hB l.toNat
  have k97 := p97 ls rs l (c) 0 n hL (fun n => by have := hB n; omega) (decide_eq_true ⟨by omega, by omega, by omega, by omega⟩) hr h0 hR hn hn2
  refine Pure.ofT tab2_ok Try.func79 rfl rfl [.cell 10 47, .cell 11 23, .tmp 12] rfl (by decide) rfl ⟨78, 7, (.node (.node (.node (.node (.node (.node (.node (.leaf (.slS ls)) (J 0)) (J 1)) (J 2)) (J 3)) (.node (.node (.node (.node (.leaf (.int .i64 n)) (J 0)) (J 1)) (J 2)) (J 3))) (.node (.node (.node (.node (.node (.leaf (.agg [.int .i64 0, .slS rs])) (J 0)) (J 1)) (J 2)) (J 3)) (J 4))) (.node (.node (.node (.node (.node (.node (.leaf (.agg [.int .i64 l, .int .i64 c])) (J 0)) (J 1)) (J 2)) (J 3)) (J 4)) (.node (.node (.node (.node (.node (.leaf (.bool true)) (J 0)) (J 1)) (J 2)) (J 3)) (J 4)))), (OO 7)⟩ (by kernel_rfl) (by kernel_rfl) ?_
  repeat' (first
    | refine allProp_T ?_
    | exact trivial
    | (refine URun.id ?_; first
        | refine URun.nil ?_
        | refine URun.many tabs2 rfl rfl (by kernel_rfl) ?_ ?_
        | (refine URun.toCall 97 rfl ?_; first
          | refine URun.call tabs2 rfl rfl rfl rfl k97 rfl rfl ?_ rfl ?_)
        | refine URun.same tabs2 rfl rfl rfl ?_
        | refine URun.same2 tabs2 rfl rfl rfl ?_
        | refine URun.yes tabs2 rfl rfl rfl rfl ?_
        | refine URun.no tabs2 rfl rfl rfl rfl ?_
        | refine URun.yes tabs2 rfl rfl (by decide) rfl ?_
        | refine URun.no tabs2 rfl rfl (by decide) rfl ?_
        | refine URun.split tabs2 rfl rfl rfl rfl (fun h => ?_) (fun h => ?_))
    | (refine TRun.id ?_; first
        | refine TRun.nil ?_
        | refine TRun.many rfl rfl (by kernel_rfl) ?_ ?_
        | (refine TRun.toCall 97 rfl ?_; first
          | refine TRun.call rfl rfl rfl rfl k97 rfl rfl ?_ rfl ?_)
        | refine TRun.same rfl rfl rfl ?_
        | refine TRun.same2 rfl rfl rfl ?_
        | refine TRun.yes rfl rfl rfl rfl ?_
        | refine TRun.no rfl rfl rfl rfl ?_
        | refine TRun.yes rfl rfl (by decide) rfl ?_
        | refine TRun.no rfl rfl (by decide) rfl ?_
        | refine TRun.split rfl rfl rfl rfl (fun h => ?_) (fun h => ?_))
    | (refine HoldsT.id ?_; first
        | refine HoldsT.seq ?_
        | refine HoldsT.regionU ?_
        | refine HoldsT.drawn tabs2 ?_
        | refine HoldsT.yes rfl ?_
        | refine HoldsT.no rfl ?_
        | refine HoldsT.cond rfl (fun h => ?_) (fun h => ?_)
        | refine HoldsT.block ?_
        | refine HoldsT.ret ?_
        | refine HoldsT.skip ?_
        | refine HoldsT.exit ?_)
    | (refine okTr_intro ?_; kernel_rfl)
    | exact absurd rfl h
    | refine allProp_C ?_ ?_
    | refine And.intro ?_ ?_
    | omega
    | (show _ < List.length _; omega)
    | exact rowlen_intro rfl
    | exact lenEq_intro rfl
    | exact Nat.le_of_ble_eq_true rfl
    | (simp only [AV.rowlenD, AV.rowlen, AV.ncells, mulSz, toN, Option.map_some, Option.map_none, cutL, List.length_take, List.length_drop, List.length_append, List.length_cons, List.length_nil, List.length_set, Option.some.injEq, Int.reduceToNat] <;> omega))
  all_goals exact FinC.t (y := .tup [.agg [.int .i64 _, .slS _, .slS _], .agg [.int .i64 _, .int .i64 _], .bool _]) rfl rfl ⟨⟨trivial, trivial, trivial, trivial⟩, ⟨trivial, trivial, trivial⟩, trivial, trivial⟩ (AVle.rfl' rfl)

set_option maxRecDepth 10000 in
set_option maxHeartbeats 8000000 in
theorem p79c_false (ls rs : List (List UInt8)) (l c : Int) (hL : ls.length ≤ 1000000000) (hB : ∀ n : Nat, (ls.getD n []).length ≤ 1000000) (hp : placeL ls l c = true) (n : Int) (hr : rs.length ≤ 4096) (h0 : 0 < rs.length) (hR : ∀ n : Nat, (rs.getD n []).length ≤ 4096) (hn : 1 ≤ n) (hn2 : n ≤ 9999) :
    Pure Try.prog 79 [.slS ls, .agg [.int .i64 l, .int .i64 c], .agg [.int .i64 0, .slS rs], .bool false, .int .i64 n] (TyR.av ⟨true, l, midL ls l 1, writeL (ls.getD l.toNat []) (min (c + 1) ((ls.getD l.toNat []).length : Int)) (glueN rs (n - 1).toNat), l, chC (min (c + 1) ((ls.getD l.toNat []).length : Int)) (glueN rs (n - 1).toNat)⟩) := by
  obtain ⟨hq1, hq2, hq3, hq4⟩ := of_decide_eq_true hp
  have hb := hB l.toNat
  have k97 := p97 ls rs l (min (c + 1) ((ls.getD l.toNat []).length : Int)) 0 n hL (fun n => by have := hB n; omega) (decide_eq_true ⟨by omega, by omega, by omega, by omega⟩) hr h0 hR hn hn2
  refine Pure.ofT tab2_ok Try.func79 rfl rfl [.cell 10 47, .cell 11 23, .tmp 12] rfl (by decide) rfl ⟨78, 7, (.node (.node (.node (.node (.node (.node (.node (.leaf (.slS ls)) (J 0)) (J 1)) (J 2)) (J 3)) (.node (.node (.node (.node (.leaf (.int .i64 n)) (J 0)) (J 1)) (J 2)) (J 3))) (.node (.node (.node (.node (.node (.leaf (.agg [.int .i64 0, .slS rs])) (J 0)) (J 1)) (J 2)) (J 3)) (J 4))) (.node (.node (.node (.node (.node (.node (.leaf (.agg [.int .i64 l, .int .i64 c])) (J 0)) (J 1)) (J 2)) (J 3)) (J 4)) (.node (.node (.node (.node (.node (.leaf (.bool false)) (J 0)) (J 1)) (J 2)) (J 3)) (J 4)))), (OO 7)⟩ (by kernel_rfl) (by kernel_rfl) ?_
  repeat' (first
    | refine allProp_T ?_
    | exact trivial
    | (refine URun.id ?_; first
        | refine URun.nil ?_
        | refine URun.many tabs2 rfl rfl (by kernel_rfl) ?_ ?_
        | (refine URun.toCall 97 rfl ?_; first
          | refine URun.call tabs2 rfl rfl rfl rfl k97 rfl rfl ?_ rfl ?_)
        | refine URun.same tabs2 rfl rfl rfl ?_
        | refine URun.same2 tabs2 rfl rfl rfl ?_
        | refine URun.yes tabs2 rfl rfl rfl rfl ?_
        | refine URun.no tabs2 rfl rfl rfl rfl ?_
        | refine URun.yes tabs2 rfl rfl (by decide) rfl ?_
        | refine URun.no tabs2 rfl rfl (by decide) rfl ?_
        | refine URun.split tabs2 rfl rfl rfl rfl (fun h => ?_) (fun h => ?_))
    | (refine TRun.id ?_; first
        | refine TRun.nil ?_
        | refine TRun.many rfl rfl (by kernel_rfl) ?_ ?_
        | (refine TRun.toCall 97 rfl ?_; first
          | refine TRun.call rfl rfl rfl rfl k97 rfl rfl ?_ rfl ?_)
        | refine TRun.same rfl rfl rfl ?_
        | refine TRun.same2 rfl rfl rfl ?_
        | refine TRun.yes rfl rfl rfl rfl ?_
        | refine TRun.no rfl rfl rfl rfl ?_
        | refine TRun.yes rfl rfl (by decide) rfl ?_
        | refine TRun.no rfl rfl (by decide) rfl ?_
        | refine TRun.split rfl rfl rfl rfl (fun h => ?_) (fun h => ?_))
    | (refine HoldsT.id ?_; first
        | refine HoldsT.seq ?_
        | refine HoldsT.regionU ?_
        | refine HoldsT.drawn tabs2 ?_
        | refine HoldsT.yes rfl ?_
        | refine HoldsT.no rfl ?_
        | refine HoldsT.cond rfl (fun h => ?_) (fun h => ?_)
        | refine HoldsT.block ?_
        | refine HoldsT.ret ?_
        | refine HoldsT.skip ?_
        | refine HoldsT.exit ?_)
    | (refine okTr_intro ?_; kernel_rfl)
    | exact absurd rfl h
    | refine allProp_C ?_ ?_
    | refine And.intro ?_ ?_
    | omega
    | (show _ < List.length _; omega)
    | exact rowlen_intro rfl
    | exact lenEq_intro rfl
    | exact Nat.le_of_ble_eq_true rfl
    | (simp only [AV.rowlenD, AV.rowlen, AV.ncells, mulSz, toN, Option.map_some, Option.map_none, cutL, List.length_take, List.length_drop, List.length_append, List.length_cons, List.length_nil, List.length_set, Option.some.injEq, Int.reduceToNat] <;> omega))
  all_goals exact FinC.t (y := .tup [.agg [.int .i64 _, .slS _, .slS _], .agg [.int .i64 _, .int .i64 _], .bool _]) rfl rfl ⟨⟨trivial, trivial, trivial, trivial⟩, ⟨trivial, trivial, trivial⟩, trivial, trivial⟩ (AVle.rfl' rfl)

set_option maxRecDepth 10000 in
set_option maxHeartbeats 8000000 in
theorem p79l_true1 (ls rs : List (List UInt8)) (l c : Int) (hL : ls.length ≤ 1000000000) (hB : ∀ n : Nat, (ls.getD n []).length ≤ 1000000) (hp : placeL ls l c = true) (hr : rs.length ≤ 1000000) (h0 : 0 < rs.length) (hR : ∀ n : Nat, (rs.getD n []).length ≤ 1000000) :
    Pure Try.prog 79 [.slS ls, .agg [.int .i64 l, .int .i64 c], .agg [.int .i64 1, .slS rs], .bool true, .int .i64 1] (TyR.av ⟨true, l, [], rs, l, firstL ((rs).getD 0 [])⟩) := by
  obtain ⟨hq1, hq2, hq3, hq4⟩ := of_decide_eq_true hp
  have hb := hB l.toNat
  have k98 := p98_1 rs l 1 hr h0 hR
  refine Pure.ofT tab2_ok Try.func79 rfl rfl [.cell 10 47, .cell 11 23, .tmp 12] rfl (by decide) rfl ⟨78, 7, (.node (.node (.node (.node (.node (.node (.node (.leaf (.slS ls)) (J 0)) (J 1)) (J 2)) (J 3)) (.node (.node (.node (.node (.leaf (.int .i64 1)) (J 0)) (J 1)) (J 2)) (J 3))) (.node (.node (.node (.node (.node (.leaf (.agg [.int .i64 1, .slS rs])) (J 0)) (J 1)) (J 2)) (J 3)) (J 4))) (.node (.node (.node (.node (.node (.node (.leaf (.agg [.int .i64 l, .int .i64 c])) (J 0)) (J 1)) (J 2)) (J 3)) (J 4)) (.node (.node (.node (.node (.node (.leaf (.bool true)) (J 0)) (J 1)) (J 2)) (J 3)) (J 4)))), (OO 7)⟩ (by kernel_rfl) (by kernel_rfl) ?_
  repeat' (first
    | refine allProp_T ?_
    | exact trivial
    | (refine URun.id ?_; first
        | refine URun.nil ?_
        | refine URun.many tabs2 rfl rfl (by kernel_rfl) ?_ ?_
        | (refine URun.toCall 98 rfl ?_; first
          | refine URun.call tabs2 rfl rfl rfl rfl k98 rfl rfl ?_ rfl ?_)
        | refine URun.same tabs2 rfl rfl rfl ?_
        | refine URun.same2 tabs2 rfl rfl rfl ?_
        | refine URun.yes tabs2 rfl rfl rfl rfl ?_
        | refine URun.no tabs2 rfl rfl rfl rfl ?_
        | refine URun.yes tabs2 rfl rfl (by decide) rfl ?_
        | refine URun.no tabs2 rfl rfl (by decide) rfl ?_
        | refine URun.split tabs2 rfl rfl rfl rfl (fun h => ?_) (fun h => ?_))
    | (refine TRun.id ?_; first
        | refine TRun.nil ?_
        | refine TRun.many rfl rfl (by kernel_rfl) ?_ ?_
        | (refine TRun.toCall 98 rfl ?_; first
          | refine TRun.call rfl rfl rfl rfl k98 rfl rfl ?_ rfl ?_)
        | refine TRun.same rfl rfl rfl ?_
        | refine TRun.same2 rfl rfl rfl ?_
        | refine TRun.yes rfl rfl rfl rfl ?_
        | refine TRun.no rfl rfl rfl rfl ?_
        | refine TRun.yes rfl rfl (by decide) rfl ?_
        | refine TRun.no rfl rfl (by decide) rfl ?_
        | refine TRun.split rfl rfl rfl rfl (fun h => ?_) (fun h => ?_))
    | (refine HoldsT.id ?_; first
        | refine HoldsT.seq ?_
        | refine HoldsT.regionU ?_
        | refine HoldsT.drawn tabs2 ?_
        | refine HoldsT.yes rfl ?_
        | refine HoldsT.no rfl ?_
        | refine HoldsT.cond rfl (fun h => ?_) (fun h => ?_)
        | refine HoldsT.block ?_
        | refine HoldsT.ret ?_
        | refine HoldsT.skip ?_
        | refine HoldsT.exit ?_)
    | (refine okTr_intro ?_; kernel_rfl)
    | exact absurd rfl h
    | refine allProp_C ?_ ?_
    | refine And.intro ?_ ?_
    | omega
    | (show _ < List.length _; omega)
    | exact rowlen_intro rfl
    | exact lenEq_intro rfl
    | exact Nat.le_of_ble_eq_true rfl
    | (simp only [AV.rowlenD, AV.rowlen, AV.ncells, mulSz, toN, Option.map_some, Option.map_none, cutL, List.length_take, List.length_drop, List.length_append, List.length_cons, List.length_nil, List.length_set, Option.some.injEq, Int.reduceToNat] <;> omega))
  all_goals exact FinC.t (y := .tup [.agg [.int .i64 _, .slS _, .slS _], .agg [.int .i64 _, .int .i64 _], .bool _]) rfl rfl ⟨⟨trivial, trivial, trivial, trivial⟩, ⟨trivial, trivial, trivial⟩, trivial, trivial⟩ (AVle.rfl' rfl)

set_option maxRecDepth 10000 in
set_option maxHeartbeats 8000000 in
theorem p79l_true2 (ls rs : List (List UInt8)) (l c : Int) (hL : ls.length ≤ 1000000000) (hB : ∀ n : Nat, (ls.getD n []).length ≤ 1000000) (hp : placeL ls l c = true) (hr : rs.length ≤ 1000000) (h0 : 0 < rs.length) (hR : ∀ n : Nat, (rs.getD n []).length ≤ 1000000) :
    Pure Try.prog 79 [.slS ls, .agg [.int .i64 l, .int .i64 c], .agg [.int .i64 1, .slS rs], .bool true, .int .i64 2] (TyR.av ⟨true, l, [], rs ++ rs, l, firstL ((rs ++ rs).getD 0 [])⟩) := by
  obtain ⟨hq1, hq2, hq3, hq4⟩ := of_decide_eq_true hp
  have hb := hB l.toNat
  have k98 := p98_2 rs l 1 hr h0 hR
  refine Pure.ofT tab2_ok Try.func79 rfl rfl [.cell 10 47, .cell 11 23, .tmp 12] rfl (by decide) rfl ⟨78, 7, (.node (.node (.node (.node (.node (.node (.node (.leaf (.slS ls)) (J 0)) (J 1)) (J 2)) (J 3)) (.node (.node (.node (.node (.leaf (.int .i64 2)) (J 0)) (J 1)) (J 2)) (J 3))) (.node (.node (.node (.node (.node (.leaf (.agg [.int .i64 1, .slS rs])) (J 0)) (J 1)) (J 2)) (J 3)) (J 4))) (.node (.node (.node (.node (.node (.node (.leaf (.agg [.int .i64 l, .int .i64 c])) (J 0)) (J 1)) (J 2)) (J 3)) (J 4)) (.node (.node (.node (.node (.node (.leaf (.bool true)) (J 0)) (J 1)) (J 2)) (J 3)) (J 4)))), (OO 7)⟩ (by kernel_rfl) (by kernel_rfl) ?_
  repeat' (first
    | refine allProp_T ?_
    | exact trivial
    | (refine URun.id ?_; first
        | refine URun.nil ?_
        | refine URun.many tabs2 rfl rfl (by kernel_rfl) ?_ ?_
        | (refine URun.toCall 98 rfl ?_; first
          | refine URun.call tabs2 rfl rfl rfl rfl k98 rfl rfl ?_ rfl ?_)
        | refine URun.same tabs2 rfl rfl rfl ?_
        | refine URun.same2 tabs2 rfl rfl rfl ?_
        | refine URun.yes tabs2 rfl rfl rfl rfl ?_
        | refine URun.no tabs2 rfl rfl rfl rfl ?_
        | refine URun.yes tabs2 rfl rfl (by decide) rfl ?_
        | refine URun.no tabs2 rfl rfl (by decide) rfl ?_
        | refine URun.split tabs2 rfl rfl rfl rfl (fun h => ?_) (fun h => ?_))
    | (refine TRun.id ?_; first
        | refine TRun.nil ?_
        | refine TRun.many rfl rfl (by kernel_rfl) ?_ ?_
        | (refine TRun.toCall 98 rfl ?_; first
          | refine TRun.call rfl rfl rfl rfl k98 rfl rfl ?_ rfl ?_)
        | refine TRun.same rfl rfl rfl ?_
        | refine TRun.same2 rfl rfl rfl ?_
        | refine TRun.yes rfl rfl rfl rfl ?_
        | refine TRun.no rfl rfl rfl rfl ?_
        | refine TRun.yes rfl rfl (by decide) rfl ?_
        | refine TRun.no rfl rfl (by decide) rfl ?_
        | refine TRun.split rfl rfl rfl rfl (fun h => ?_) (fun h => ?_))
    | (refine HoldsT.id ?_; first
        | refine HoldsT.seq ?_
        | refine HoldsT.regionU ?_
        | refine HoldsT.drawn tabs2 ?_
        | refine HoldsT.yes rfl ?_
        | refine HoldsT.no rfl ?_
        | refine HoldsT.cond rfl (fun h => ?_) (fun h => ?_)
        | refine HoldsT.block ?_
        | refine HoldsT.ret ?_
        | refine HoldsT.skip ?_
        | refine HoldsT.exit ?_)
    | (refine okTr_intro ?_; kernel_rfl)
    | exact absurd rfl h
    | refine allProp_C ?_ ?_
    | refine And.intro ?_ ?_
    | omega
    | (show _ < List.length _; omega)
    | exact rowlen_intro rfl
    | exact lenEq_intro rfl
    | exact Nat.le_of_ble_eq_true rfl
    | (simp only [AV.rowlenD, AV.rowlen, AV.ncells, mulSz, toN, Option.map_some, Option.map_none, cutL, List.length_take, List.length_drop, List.length_append, List.length_cons, List.length_nil, List.length_set, Option.some.injEq, Int.reduceToNat] <;> omega))
  all_goals exact FinC.t (y := .tup [.agg [.int .i64 _, .slS _, .slS _], .agg [.int .i64 _, .int .i64 _], .bool _]) rfl rfl ⟨⟨trivial, trivial, trivial, trivial⟩, ⟨trivial, trivial, trivial⟩, trivial, trivial⟩ (AVle.rfl' rfl)

set_option maxRecDepth 10000 in
set_option maxHeartbeats 8000000 in
theorem p79l_true3 (ls rs : List (List UInt8)) (l c : Int) (hL : ls.length ≤ 1000000000) (hB : ∀ n : Nat, (ls.getD n []).length ≤ 1000000) (hp : placeL ls l c = true) (hr : rs.length ≤ 1000000) (h0 : 0 < rs.length) (hR : ∀ n : Nat, (rs.getD n []).length ≤ 1000000) :
    Pure Try.prog 79 [.slS ls, .agg [.int .i64 l, .int .i64 c], .agg [.int .i64 1, .slS rs], .bool true, .int .i64 3] (TyR.av ⟨true, l, [], rs ++ rs ++ rs, l, firstL ((rs ++ rs ++ rs).getD 0 [])⟩) := by
  obtain ⟨hq1, hq2, hq3, hq4⟩ := of_decide_eq_true hp
  have hb := hB l.toNat
  have k98 := p98_3 rs l 1 hr h0 hR
  refine Pure.ofT tab2_ok Try.func79 rfl rfl [.cell 10 47, .cell 11 23, .tmp 12] rfl (by decide) rfl ⟨78, 7, (.node (.node (.node (.node (.node (.node (.node (.leaf (.slS ls)) (J 0)) (J 1)) (J 2)) (J 3)) (.node (.node (.node (.node (.leaf (.int .i64 3)) (J 0)) (J 1)) (J 2)) (J 3))) (.node (.node (.node (.node (.node (.leaf (.agg [.int .i64 1, .slS rs])) (J 0)) (J 1)) (J 2)) (J 3)) (J 4))) (.node (.node (.node (.node (.node (.node (.leaf (.agg [.int .i64 l, .int .i64 c])) (J 0)) (J 1)) (J 2)) (J 3)) (J 4)) (.node (.node (.node (.node (.node (.leaf (.bool true)) (J 0)) (J 1)) (J 2)) (J 3)) (J 4)))), (OO 7)⟩ (by kernel_rfl) (by kernel_rfl) ?_
  repeat' (first
    | refine allProp_T ?_
    | exact trivial
    | (refine URun.id ?_; first
        | refine URun.nil ?_
        | refine URun.many tabs2 rfl rfl (by kernel_rfl) ?_ ?_
        | (refine URun.toCall 98 rfl ?_; first
          | refine URun.call tabs2 rfl rfl rfl rfl k98 rfl rfl ?_ rfl ?_)
        | refine URun.same tabs2 rfl rfl rfl ?_
        | refine URun.same2 tabs2 rfl rfl rfl ?_
        | refine URun.yes tabs2 rfl rfl rfl rfl ?_
        | refine URun.no tabs2 rfl rfl rfl rfl ?_
        | refine URun.yes tabs2 rfl rfl (by decide) rfl ?_
        | refine URun.no tabs2 rfl rfl (by decide) rfl ?_
        | refine URun.split tabs2 rfl rfl rfl rfl (fun h => ?_) (fun h => ?_))
    | (refine TRun.id ?_; first
        | refine TRun.nil ?_
        | refine TRun.many rfl rfl (by kernel_rfl) ?_ ?_
        | (refine TRun.toCall 98 rfl ?_; first
          | refine TRun.call rfl rfl rfl rfl k98 rfl rfl ?_ rfl ?_)
        | refine TRun.same rfl rfl rfl ?_
        | refine TRun.same2 rfl rfl rfl ?_
        | refine TRun.yes rfl rfl rfl rfl ?_
        | refine TRun.no rfl rfl rfl rfl ?_
        | refine TRun.yes rfl rfl (by decide) rfl ?_
        | refine TRun.no rfl rfl (by decide) rfl ?_
        | refine TRun.split rfl rfl rfl rfl (fun h => ?_) (fun h => ?_))
    | (refine HoldsT.id ?_; first
        | refine HoldsT.seq ?_
        | refine HoldsT.regionU ?_
        | refine HoldsT.drawn tabs2 ?_
        | refine HoldsT.yes rfl ?_
        | refine HoldsT.no rfl ?_
        | refine HoldsT.cond rfl (fun h => ?_) (fun h => ?_)
        | refine HoldsT.block ?_
        | refine HoldsT.ret ?_
        | refine HoldsT.skip ?_
        | refine HoldsT.exit ?_)
    | (refine okTr_intro ?_; kernel_rfl)
    | exact absurd rfl h
    | refine allProp_C ?_ ?_
    | refine And.intro ?_ ?_
    | omega
    | (show _ < List.length _; omega)
    | exact rowlen_intro rfl
    | exact lenEq_intro rfl
    | exact Nat.le_of_ble_eq_true rfl
    | (simp only [AV.rowlenD, AV.rowlen, AV.ncells, mulSz, toN, Option.map_some, Option.map_none, cutL, List.length_take, List.length_drop, List.length_append, List.length_cons, List.length_nil, List.length_set, Option.some.injEq, Int.reduceToNat] <;> omega))
  all_goals exact FinC.t (y := .tup [.agg [.int .i64 _, .slS _, .slS _], .agg [.int .i64 _, .int .i64 _], .bool _]) rfl rfl ⟨⟨trivial, trivial, trivial, trivial⟩, ⟨trivial, trivial, trivial⟩, trivial, trivial⟩ (AVle.rfl' rfl)

set_option maxRecDepth 10000 in
set_option maxHeartbeats 8000000 in
theorem p79l_false1 (ls rs : List (List UInt8)) (l c : Int) (hL : ls.length ≤ 1000000000) (hB : ∀ n : Nat, (ls.getD n []).length ≤ 1000000) (hp : placeL ls l c = true) (hr : rs.length ≤ 1000000) (h0 : 0 < rs.length) (hR : ∀ n : Nat, (rs.getD n []).length ≤ 1000000) :
    Pure Try.prog 79 [.slS ls, .agg [.int .i64 l, .int .i64 c], .agg [.int .i64 1, .slS rs], .bool false, .int .i64 1] (TyR.av ⟨true, (l + 1), [], rs, (l + 1), firstL ((rs).getD 0 [])⟩) := by
  obtain ⟨hq1, hq2, hq3, hq4⟩ := of_decide_eq_true hp
  have hb := hB l.toNat
  have k98 := p98_1 rs (l + 1) 1 hr h0 hR
  refine Pure.ofT tab2_ok Try.func79 rfl rfl [.cell 10 47, .cell 11 23, .tmp 12] rfl (by decide) rfl ⟨78, 7, (.node (.node (.node (.node (.node (.node (.node (.leaf (.slS ls)) (J 0)) (J 1)) (J 2)) (J 3)) (.node (.node (.node (.node (.leaf (.int .i64 1)) (J 0)) (J 1)) (J 2)) (J 3))) (.node (.node (.node (.node (.node (.leaf (.agg [.int .i64 1, .slS rs])) (J 0)) (J 1)) (J 2)) (J 3)) (J 4))) (.node (.node (.node (.node (.node (.node (.leaf (.agg [.int .i64 l, .int .i64 c])) (J 0)) (J 1)) (J 2)) (J 3)) (J 4)) (.node (.node (.node (.node (.node (.leaf (.bool false)) (J 0)) (J 1)) (J 2)) (J 3)) (J 4)))), (OO 7)⟩ (by kernel_rfl) (by kernel_rfl) ?_
  repeat' (first
    | refine allProp_T ?_
    | exact trivial
    | (refine URun.id ?_; first
        | refine URun.nil ?_
        | refine URun.many tabs2 rfl rfl (by kernel_rfl) ?_ ?_
        | (refine URun.toCall 98 rfl ?_; first
          | refine URun.call tabs2 rfl rfl rfl rfl k98 rfl rfl ?_ rfl ?_)
        | refine URun.same tabs2 rfl rfl rfl ?_
        | refine URun.same2 tabs2 rfl rfl rfl ?_
        | refine URun.yes tabs2 rfl rfl rfl rfl ?_
        | refine URun.no tabs2 rfl rfl rfl rfl ?_
        | refine URun.yes tabs2 rfl rfl (by decide) rfl ?_
        | refine URun.no tabs2 rfl rfl (by decide) rfl ?_
        | refine URun.split tabs2 rfl rfl rfl rfl (fun h => ?_) (fun h => ?_))
    | (refine TRun.id ?_; first
        | refine TRun.nil ?_
        | refine TRun.many rfl rfl (by kernel_rfl) ?_ ?_
        | (refine TRun.toCall 98 rfl ?_; first
          | refine TRun.call rfl rfl rfl rfl k98 rfl rfl ?_ rfl ?_)
        | refine TRun.same rfl rfl rfl ?_
        | refine TRun.same2 rfl rfl rfl ?_
        | refine TRun.yes rfl rfl rfl rfl ?_
        | refine TRun.no rfl rfl rfl rfl ?_
        | refine TRun.yes rfl rfl (by decide) rfl ?_
        | refine TRun.no rfl rfl (by decide) rfl ?_
        | refine TRun.split rfl rfl rfl rfl (fun h => ?_) (fun h => ?_))
    | (refine HoldsT.id ?_; first
        | refine HoldsT.seq ?_
        | refine HoldsT.regionU ?_
        | refine HoldsT.drawn tabs2 ?_
        | refine HoldsT.yes rfl ?_
        | refine HoldsT.no rfl ?_
        | refine HoldsT.cond rfl (fun h => ?_) (fun h => ?_)
        | refine HoldsT.block ?_
        | refine HoldsT.ret ?_
        | refine HoldsT.skip ?_
        | refine HoldsT.exit ?_)
    | (refine okTr_intro ?_; kernel_rfl)
    | exact absurd rfl h
    | refine allProp_C ?_ ?_
    | refine And.intro ?_ ?_
    | omega
    | (show _ < List.length _; omega)
    | exact rowlen_intro rfl
    | exact lenEq_intro rfl
    | exact Nat.le_of_ble_eq_true rfl
    | (simp only [AV.rowlenD, AV.rowlen, AV.ncells, mulSz, toN, Option.map_some, Option.map_none, cutL, List.length_take, List.length_drop, List.length_append, List.length_cons, List.length_nil, List.length_set, Option.some.injEq, Int.reduceToNat] <;> omega))
  all_goals exact FinC.t (y := .tup [.agg [.int .i64 _, .slS _, .slS _], .agg [.int .i64 _, .int .i64 _], .bool _]) rfl rfl ⟨⟨trivial, trivial, trivial, trivial⟩, ⟨trivial, trivial, trivial⟩, trivial, trivial⟩ (AVle.rfl' rfl)

set_option maxRecDepth 10000 in
set_option maxHeartbeats 8000000 in
theorem p79l_false2 (ls rs : List (List UInt8)) (l c : Int) (hL : ls.length ≤ 1000000000) (hB : ∀ n : Nat, (ls.getD n []).length ≤ 1000000) (hp : placeL ls l c = true) (hr : rs.length ≤ 1000000) (h0 : 0 < rs.length) (hR : ∀ n : Nat, (rs.getD n []).length ≤ 1000000) :
    Pure Try.prog 79 [.slS ls, .agg [.int .i64 l, .int .i64 c], .agg [.int .i64 1, .slS rs], .bool false, .int .i64 2] (TyR.av ⟨true, (l + 1), [], rs ++ rs, (l + 1), firstL ((rs ++ rs).getD 0 [])⟩) := by
  obtain ⟨hq1, hq2, hq3, hq4⟩ := of_decide_eq_true hp
  have hb := hB l.toNat
  have k98 := p98_2 rs (l + 1) 1 hr h0 hR
  refine Pure.ofT tab2_ok Try.func79 rfl rfl [.cell 10 47, .cell 11 23, .tmp 12] rfl (by decide) rfl ⟨78, 7, (.node (.node (.node (.node (.node (.node (.node (.leaf (.slS ls)) (J 0)) (J 1)) (J 2)) (J 3)) (.node (.node (.node (.node (.leaf (.int .i64 2)) (J 0)) (J 1)) (J 2)) (J 3))) (.node (.node (.node (.node (.node (.leaf (.agg [.int .i64 1, .slS rs])) (J 0)) (J 1)) (J 2)) (J 3)) (J 4))) (.node (.node (.node (.node (.node (.node (.leaf (.agg [.int .i64 l, .int .i64 c])) (J 0)) (J 1)) (J 2)) (J 3)) (J 4)) (.node (.node (.node (.node (.node (.leaf (.bool false)) (J 0)) (J 1)) (J 2)) (J 3)) (J 4)))), (OO 7)⟩ (by kernel_rfl) (by kernel_rfl) ?_
  repeat' (first
    | refine allProp_T ?_
    | exact trivial
    | (refine URun.id ?_; first
        | refine URun.nil ?_
        | refine URun.many tabs2 rfl rfl (by kernel_rfl) ?_ ?_
        | (refine URun.toCall 98 rfl ?_; first
          | refine URun.call tabs2 rfl rfl rfl rfl k98 rfl rfl ?_ rfl ?_)
        | refine URun.same tabs2 rfl rfl rfl ?_
        | refine URun.same2 tabs2 rfl rfl rfl ?_
        | refine URun.yes tabs2 rfl rfl rfl rfl ?_
        | refine URun.no tabs2 rfl rfl rfl rfl ?_
        | refine URun.yes tabs2 rfl rfl (by decide) rfl ?_
        | refine URun.no tabs2 rfl rfl (by decide) rfl ?_
        | refine URun.split tabs2 rfl rfl rfl rfl (fun h => ?_) (fun h => ?_))
    | (refine TRun.id ?_; first
        | refine TRun.nil ?_
        | refine TRun.many rfl rfl (by kernel_rfl) ?_ ?_
        | (refine TRun.toCall 98 rfl ?_; first
          | refine TRun.call rfl rfl rfl rfl k98 rfl rfl ?_ rfl ?_)
        | refine TRun.same rfl rfl rfl ?_
        | refine TRun.same2 rfl rfl rfl ?_
        | refine TRun.yes rfl rfl rfl rfl ?_
        | refine TRun.no rfl rfl rfl rfl ?_
        | refine TRun.yes rfl rfl (by decide) rfl ?_
        | refine TRun.no rfl rfl (by decide) rfl ?_
        | refine TRun.split rfl rfl rfl rfl (fun h => ?_) (fun h => ?_))
    | (refine HoldsT.id ?_; first
        | refine HoldsT.seq ?_
        | refine HoldsT.regionU ?_
        | refine HoldsT.drawn tabs2 ?_
        | refine HoldsT.yes rfl ?_
        | refine HoldsT.no rfl ?_
        | refine HoldsT.cond rfl (fun h => ?_) (fun h => ?_)
        | refine HoldsT.block ?_
        | refine HoldsT.ret ?_
        | refine HoldsT.skip ?_
        | refine HoldsT.exit ?_)
    | (refine okTr_intro ?_; kernel_rfl)
    | exact absurd rfl h
    | refine allProp_C ?_ ?_
    | refine And.intro ?_ ?_
    | omega
    | (show _ < List.length _; omega)
    | exact rowlen_intro rfl
    | exact lenEq_intro rfl
    | exact Nat.le_of_ble_eq_true rfl
    | (simp only [AV.rowlenD, AV.rowlen, AV.ncells, mulSz, toN, Option.map_some, Option.map_none, cutL, List.length_take, List.length_drop, List.length_append, List.length_cons, List.length_nil, List.length_set, Option.some.injEq, Int.reduceToNat] <;> omega))
  all_goals exact FinC.t (y := .tup [.agg [.int .i64 _, .slS _, .slS _], .agg [.int .i64 _, .int .i64 _], .bool _]) rfl rfl ⟨⟨trivial, trivial, trivial, trivial⟩, ⟨trivial, trivial, trivial⟩, trivial, trivial⟩ (AVle.rfl' rfl)

set_option maxRecDepth 10000 in
set_option maxHeartbeats 8000000 in
theorem p79l_false3 (ls rs : List (List UInt8)) (l c : Int) (hL : ls.length ≤ 1000000000) (hB : ∀ n : Nat, (ls.getD n []).length ≤ 1000000) (hp : placeL ls l c = true) (hr : rs.length ≤ 1000000) (h0 : 0 < rs.length) (hR : ∀ n : Nat, (rs.getD n []).length ≤ 1000000) :
    Pure Try.prog 79 [.slS ls, .agg [.int .i64 l, .int .i64 c], .agg [.int .i64 1, .slS rs], .bool false, .int .i64 3] (TyR.av ⟨true, (l + 1), [], rs ++ rs ++ rs, (l + 1), firstL ((rs ++ rs ++ rs).getD 0 [])⟩) := by
  obtain ⟨hq1, hq2, hq3, hq4⟩ := of_decide_eq_true hp
  have hb := hB l.toNat
  have k98 := p98_3 rs (l + 1) 1 hr h0 hR
  refine Pure.ofT tab2_ok Try.func79 rfl rfl [.cell 10 47, .cell 11 23, .tmp 12] rfl (by decide) rfl ⟨78, 7, (.node (.node (.node (.node (.node (.node (.node (.leaf (.slS ls)) (J 0)) (J 1)) (J 2)) (J 3)) (.node (.node (.node (.node (.leaf (.int .i64 3)) (J 0)) (J 1)) (J 2)) (J 3))) (.node (.node (.node (.node (.node (.leaf (.agg [.int .i64 1, .slS rs])) (J 0)) (J 1)) (J 2)) (J 3)) (J 4))) (.node (.node (.node (.node (.node (.node (.leaf (.agg [.int .i64 l, .int .i64 c])) (J 0)) (J 1)) (J 2)) (J 3)) (J 4)) (.node (.node (.node (.node (.node (.leaf (.bool false)) (J 0)) (J 1)) (J 2)) (J 3)) (J 4)))), (OO 7)⟩ (by kernel_rfl) (by kernel_rfl) ?_
  repeat' (first
    | refine allProp_T ?_
    | exact trivial
    | (refine URun.id ?_; first
        | refine URun.nil ?_
        | refine URun.many tabs2 rfl rfl (by kernel_rfl) ?_ ?_
        | (refine URun.toCall 98 rfl ?_; first
          | refine URun.call tabs2 rfl rfl rfl rfl k98 rfl rfl ?_ rfl ?_)
        | refine URun.same tabs2 rfl rfl rfl ?_
        | refine URun.same2 tabs2 rfl rfl rfl ?_
        | refine URun.yes tabs2 rfl rfl rfl rfl ?_
        | refine URun.no tabs2 rfl rfl rfl rfl ?_
        | refine URun.yes tabs2 rfl rfl (by decide) rfl ?_
        | refine URun.no tabs2 rfl rfl (by decide) rfl ?_
        | refine URun.split tabs2 rfl rfl rfl rfl (fun h => ?_) (fun h => ?_))
    | (refine TRun.id ?_; first
        | refine TRun.nil ?_
        | refine TRun.many rfl rfl (by kernel_rfl) ?_ ?_
        | (refine TRun.toCall 98 rfl ?_; first
          | refine TRun.call rfl rfl rfl rfl k98 rfl rfl ?_ rfl ?_)
        | refine TRun.same rfl rfl rfl ?_
        | refine TRun.same2 rfl rfl rfl ?_
        | refine TRun.yes rfl rfl rfl rfl ?_
        | refine TRun.no rfl rfl rfl rfl ?_
        | refine TRun.yes rfl rfl (by decide) rfl ?_
        | refine TRun.no rfl rfl (by decide) rfl ?_
        | refine TRun.split rfl rfl rfl rfl (fun h => ?_) (fun h => ?_))
    | (refine HoldsT.id ?_; first
        | refine HoldsT.seq ?_
        | refine HoldsT.regionU ?_
        | refine HoldsT.drawn tabs2 ?_
        | refine HoldsT.yes rfl ?_
        | refine HoldsT.no rfl ?_
        | refine HoldsT.cond rfl (fun h => ?_) (fun h => ?_)
        | refine HoldsT.block ?_
        | refine HoldsT.ret ?_
        | refine HoldsT.skip ?_
        | refine HoldsT.exit ?_)
    | (refine okTr_intro ?_; kernel_rfl)
    | exact absurd rfl h
    | refine allProp_C ?_ ?_
    | refine And.intro ?_ ?_
    | omega
    | (show _ < List.length _; omega)
    | exact rowlen_intro rfl
    | exact lenEq_intro rfl
    | exact Nat.le_of_ble_eq_true rfl
    | (simp only [AV.rowlenD, AV.rowlen, AV.ncells, mulSz, toN, Option.map_some, Option.map_none, cutL, List.length_take, List.length_drop, List.length_append, List.length_cons, List.length_nil, List.length_set, Option.some.injEq, Int.reduceToNat] <;> omega))
  all_goals exact FinC.t (y := .tup [.agg [.int .i64 _, .slS _, .slS _], .agg [.int .i64 _, .int .i64 _], .bool _]) rfl rfl ⟨⟨trivial, trivial, trivial, trivial⟩, ⟨trivial, trivial, trivial⟩, trivial, trivial⟩ (AVle.rfl' rfl)

set_option maxRecDepth 10000 in
set_option maxHeartbeats 8000000 in
theorem p79b_true (ls rs : List (List UInt8)) (l c : Int) (hL : ls.length ≤ 1000000000) (hB : ∀ n : Nat, (ls.getD n []).length ≤ 1000000) (hp : placeL ls l c = true) (hr : rs.length ≤ 1000000) (hR : ∀ n : Nat, (rs.getD n []).length ≤ 1000000) (hc9 : c ≤ 999999) :
    Pure Try.prog 79 [.slS ls, .agg [.int .i64 l, .int .i64 c], .agg [.int .i64 2, .slS rs], .bool true, .int .i64 1] (TyR.av ⟨true, l, midL ls l (min (l + rs.length) ls.length - l), rowsB ls rs l c rs.length, l, c⟩) := by
  obtain ⟨hq1, hq2, hq3, hq4⟩ := of_decide_eq_true hp
  have hb := hB l.toNat
  have k99 := p99 ls rs l c 2 hL hB (by omega) (by omega) (by (try split) <;> omega) (by (try split) <;> omega) hr hR
  
  refine Pure.ofT tab2_ok Try.func79 rfl rfl [.cell 10 47, .cell 11 23, .tmp 12] rfl (by decide) rfl ⟨78, 7, (.node (.node (.node (.node (.node (.node (.node (.leaf (.slS ls)) (J 0)) (J 1)) (J 2)) (J 3)) (.node (.node (.node (.node (.leaf (.int .i64 1)) (J 0)) (J 1)) (J 2)) (J 3))) (.node (.node (.node (.node (.node (.leaf (.agg [.int .i64 2, .slS rs])) (J 0)) (J 1)) (J 2)) (J 3)) (J 4))) (.node (.node (.node (.node (.node (.node (.leaf (.agg [.int .i64 l, .int .i64 c])) (J 0)) (J 1)) (J 2)) (J 3)) (J 4)) (.node (.node (.node (.node (.node (.leaf (.bool true)) (J 0)) (J 1)) (J 2)) (J 3)) (J 4)))), (OO 7)⟩ (by kernel_rfl) (by kernel_rfl) ?_
  repeat' (first
    | refine allProp_T ?_
    | exact trivial
    | (refine URun.id ?_; first
        | refine URun.nil ?_
        | refine URun.many tabs2 rfl rfl (by kernel_rfl) ?_ ?_
        | (refine URun.toCall 99 rfl ?_; first
          | refine URun.call tabs2 rfl rfl rfl rfl k99 rfl rfl ?_ rfl ?_)
        | refine URun.same tabs2 rfl rfl rfl ?_
        | refine URun.same2 tabs2 rfl rfl rfl ?_
        | refine URun.yes tabs2 rfl rfl rfl rfl ?_
        | refine URun.no tabs2 rfl rfl rfl rfl ?_
        | refine URun.yes tabs2 rfl rfl (by decide) rfl ?_
        | refine URun.no tabs2 rfl rfl (by decide) rfl ?_
        | refine URun.split tabs2 rfl rfl rfl rfl (fun h => ?_) (fun h => ?_))
    | (refine TRun.id ?_; first
        | refine TRun.nil ?_
        | refine TRun.many rfl rfl (by kernel_rfl) ?_ ?_
        | (refine TRun.toCall 99 rfl ?_; first
          | refine TRun.call rfl rfl rfl rfl k99 rfl rfl ?_ rfl ?_)
        | refine TRun.same rfl rfl rfl ?_
        | refine TRun.same2 rfl rfl rfl ?_
        | refine TRun.yes rfl rfl rfl rfl ?_
        | refine TRun.no rfl rfl rfl rfl ?_
        | refine TRun.yes rfl rfl (by decide) rfl ?_
        | refine TRun.no rfl rfl (by decide) rfl ?_
        | refine TRun.split rfl rfl rfl rfl (fun h => ?_) (fun h => ?_))
    | (refine HoldsT.id ?_; first
        | refine HoldsT.seq ?_
        | refine HoldsT.regionU ?_
        | refine HoldsT.drawn tabs2 ?_
        | refine HoldsT.yes rfl ?_
        | refine HoldsT.no rfl ?_
        | refine HoldsT.cond rfl (fun h => ?_) (fun h => ?_)
        | refine HoldsT.block ?_
        | refine HoldsT.ret ?_
        | refine HoldsT.skip ?_
        | refine HoldsT.exit ?_)
    | (refine okTr_intro ?_; kernel_rfl)
    | exact absurd rfl h
    | refine allProp_C ?_ ?_
    | refine And.intro ?_ ?_
    | omega
    | (show _ < List.length _; omega)
    | exact rowlen_intro rfl
    | exact lenEq_intro rfl
    | exact Nat.le_of_ble_eq_true rfl
    | (simp only [AV.rowlenD, AV.rowlen, AV.ncells, mulSz, toN, Option.map_some, Option.map_none, cutL, List.length_take, List.length_drop, List.length_append, List.length_cons, List.length_nil, List.length_set, Option.some.injEq, Int.reduceToNat] <;> omega))
  all_goals exact FinC.t (y := .tup [.agg [.int .i64 _, .slS _, .slS _], .agg [.int .i64 _, .int .i64 _], .bool _]) rfl rfl ⟨⟨trivial, trivial, trivial, trivial⟩, ⟨trivial, trivial, trivial⟩, trivial, trivial⟩ (AVle.rfl' rfl)

set_option maxRecDepth 10000 in
set_option maxHeartbeats 8000000 in
theorem p79b_false (ls rs : List (List UInt8)) (l c : Int) (hL : ls.length ≤ 1000000000) (hB : ∀ n : Nat, (ls.getD n []).length ≤ 1000000) (hp : placeL ls l c = true) (hr : rs.length ≤ 1000000) (hR : ∀ n : Nat, (rs.getD n []).length ≤ 1000000) (hc9 : c ≤ 999999) :
    Pure Try.prog 79 [.slS ls, .agg [.int .i64 l, .int .i64 c], .agg [.int .i64 2, .slS rs], .bool false, .int .i64 1] (TyR.av ⟨true, l, midL ls l (min (l + rs.length) ls.length - l), rowsB ls rs l (if 0 < ((ls.getD l.toNat []).length : Int) then c + 1 else c) rs.length, l, (if 0 < ((ls.getD l.toNat []).length : Int) then c + 1 else c)⟩) := by
  obtain ⟨hq1, hq2, hq3, hq4⟩ := of_decide_eq_true hp
  have hb := hB l.toNat
  have k99 := p99 ls rs l (if 0 < ((ls.getD l.toNat []).length : Int) then c + 1 else c) 2 hL hB (by omega) (by omega) (by (try split) <;> omega) (by (try split) <;> omega) hr hR
  by_cases hs : 0 < ((ls.getD l.toNat []).length : Int)
  · rw [if_pos hs] at k99 ⊢
    refine Pure.ofT tab2_ok Try.func79 rfl rfl [.cell 10 47, .cell 11 23, .tmp 12] rfl (by decide) rfl ⟨78, 7, (.node (.node (.node (.node (.node (.node (.node (.leaf (.slS ls)) (J 0)) (J 1)) (J 2)) (J 3)) (.node (.node (.node (.node (.leaf (.int .i64 1)) (J 0)) (J 1)) (J 2)) (J 3))) (.node (.node (.node (.node (.node (.leaf (.agg [.int .i64 2, .slS rs])) (J 0)) (J 1)) (J 2)) (J 3)) (J 4))) (.node (.node (.node (.node (.node (.node (.leaf (.agg [.int .i64 l, .int .i64 c])) (J 0)) (J 1)) (J 2)) (J 3)) (J 4)) (.node (.node (.node (.node (.node (.leaf (.bool false)) (J 0)) (J 1)) (J 2)) (J 3)) (J 4)))), (OO 7)⟩ (by kernel_rfl) (by kernel_rfl) ?_
    repeat' (first
      | refine allProp_T ?_
      | exact trivial
      | (refine URun.id ?_; first
          | refine URun.nil ?_
          | refine URun.many tabs2 rfl rfl (by kernel_rfl) ?_ ?_
          | (refine URun.toCall 99 rfl ?_; first
            | refine URun.call tabs2 rfl rfl rfl rfl k99 rfl rfl ?_ rfl ?_)
          | refine URun.same tabs2 rfl rfl rfl ?_
          | refine URun.same2 tabs2 rfl rfl rfl ?_
          | refine URun.yes tabs2 rfl rfl rfl rfl ?_
          | refine URun.no tabs2 rfl rfl rfl rfl ?_
          | refine URun.yes tabs2 rfl rfl (by decide) rfl ?_
          | refine URun.no tabs2 rfl rfl (by decide) rfl ?_
          | refine URun.yes tabs2 rfl rfl hs rfl ?_
          | refine URun.no tabs2 rfl rfl hs rfl ?_
          | refine URun.split tabs2 rfl rfl rfl rfl (fun h => ?_) (fun h => ?_))
      | (refine TRun.id ?_; first
          | refine TRun.nil ?_
          | refine TRun.many rfl rfl (by kernel_rfl) ?_ ?_
          | (refine TRun.toCall 99 rfl ?_; first
            | refine TRun.call rfl rfl rfl rfl k99 rfl rfl ?_ rfl ?_)
          | refine TRun.same rfl rfl rfl ?_
          | refine TRun.same2 rfl rfl rfl ?_
          | refine TRun.yes rfl rfl rfl rfl ?_
          | refine TRun.no rfl rfl rfl rfl ?_
          | refine TRun.yes rfl rfl (by decide) rfl ?_
          | refine TRun.no rfl rfl (by decide) rfl ?_
          | refine TRun.yes rfl rfl hs rfl ?_
          | refine TRun.no rfl rfl hs rfl ?_
          | refine TRun.split rfl rfl rfl rfl (fun h => ?_) (fun h => ?_))
      | (refine HoldsT.id ?_; first
          | refine HoldsT.seq ?_
          | refine HoldsT.regionU ?_
          | refine HoldsT.drawn tabs2 ?_
          | refine HoldsT.yes rfl ?_
          | refine HoldsT.no rfl ?_
          | refine HoldsT.cond rfl (fun h => ?_) (fun h => ?_)
          | refine HoldsT.block ?_
          | refine HoldsT.ret ?_
          | refine HoldsT.skip ?_
          | refine HoldsT.exit ?_)
      | (refine okTr_intro ?_; kernel_rfl)
      | exact absurd rfl h
      | refine allProp_C ?_ ?_
      | refine And.intro ?_ ?_
      | omega
      | (show _ < List.length _; omega)
      | exact rowlen_intro rfl
      | exact lenEq_intro rfl
      | exact Nat.le_of_ble_eq_true rfl
      | (simp only [AV.rowlenD, AV.rowlen, AV.ncells, mulSz, toN, Option.map_some, Option.map_none, cutL, List.length_take, List.length_drop, List.length_append, List.length_cons, List.length_nil, List.length_set, Option.some.injEq, Int.reduceToNat] <;> omega))
    all_goals exact FinC.t (y := .tup [.agg [.int .i64 _, .slS _, .slS _], .agg [.int .i64 _, .int .i64 _], .bool _]) rfl rfl ⟨⟨trivial, trivial, trivial, trivial⟩, ⟨trivial, trivial, trivial⟩, trivial, trivial⟩ (AVle.rfl' rfl)
  · rw [if_neg hs] at k99 ⊢
    refine Pure.ofT tab2_ok Try.func79 rfl rfl [.cell 10 47, .cell 11 23, .tmp 12] rfl (by decide) rfl ⟨78, 7, (.node (.node (.node (.node (.node (.node (.node (.leaf (.slS ls)) (J 0)) (J 1)) (J 2)) (J 3)) (.node (.node (.node (.node (.leaf (.int .i64 1)) (J 0)) (J 1)) (J 2)) (J 3))) (.node (.node (.node (.node (.node (.leaf (.agg [.int .i64 2, .slS rs])) (J 0)) (J 1)) (J 2)) (J 3)) (J 4))) (.node (.node (.node (.node (.node (.node (.leaf (.agg [.int .i64 l, .int .i64 c])) (J 0)) (J 1)) (J 2)) (J 3)) (J 4)) (.node (.node (.node (.node (.node (.leaf (.bool false)) (J 0)) (J 1)) (J 2)) (J 3)) (J 4)))), (OO 7)⟩ (by kernel_rfl) (by kernel_rfl) ?_
    repeat' (first
      | refine allProp_T ?_
      | exact trivial
      | (refine URun.id ?_; first
          | refine URun.nil ?_
          | refine URun.many tabs2 rfl rfl (by kernel_rfl) ?_ ?_
          | (refine URun.toCall 99 rfl ?_; first
            | refine URun.call tabs2 rfl rfl rfl rfl k99 rfl rfl ?_ rfl ?_)
          | refine URun.same tabs2 rfl rfl rfl ?_
          | refine URun.same2 tabs2 rfl rfl rfl ?_
          | refine URun.yes tabs2 rfl rfl rfl rfl ?_
          | refine URun.no tabs2 rfl rfl rfl rfl ?_
          | refine URun.yes tabs2 rfl rfl (by decide) rfl ?_
          | refine URun.no tabs2 rfl rfl (by decide) rfl ?_
          | refine URun.yes tabs2 rfl rfl hs rfl ?_
          | refine URun.no tabs2 rfl rfl hs rfl ?_
          | refine URun.split tabs2 rfl rfl rfl rfl (fun h => ?_) (fun h => ?_))
      | (refine TRun.id ?_; first
          | refine TRun.nil ?_
          | refine TRun.many rfl rfl (by kernel_rfl) ?_ ?_
          | (refine TRun.toCall 99 rfl ?_; first
            | refine TRun.call rfl rfl rfl rfl k99 rfl rfl ?_ rfl ?_)
          | refine TRun.same rfl rfl rfl ?_
          | refine TRun.same2 rfl rfl rfl ?_
          | refine TRun.yes rfl rfl rfl rfl ?_
          | refine TRun.no rfl rfl rfl rfl ?_
          | refine TRun.yes rfl rfl (by decide) rfl ?_
          | refine TRun.no rfl rfl (by decide) rfl ?_
          | refine TRun.yes rfl rfl hs rfl ?_
          | refine TRun.no rfl rfl hs rfl ?_
          | refine TRun.split rfl rfl rfl rfl (fun h => ?_) (fun h => ?_))
      | (refine HoldsT.id ?_; first
          | refine HoldsT.seq ?_
          | refine HoldsT.regionU ?_
          | refine HoldsT.drawn tabs2 ?_
          | refine HoldsT.yes rfl ?_
          | refine HoldsT.no rfl ?_
          | refine HoldsT.cond rfl (fun h => ?_) (fun h => ?_)
          | refine HoldsT.block ?_
          | refine HoldsT.ret ?_
          | refine HoldsT.skip ?_
          | refine HoldsT.exit ?_)
      | (refine okTr_intro ?_; kernel_rfl)
      | exact absurd rfl h
      | refine allProp_C ?_ ?_
      | refine And.intro ?_ ?_
      | omega
      | (show _ < List.length _; omega)
      | exact rowlen_intro rfl
      | exact lenEq_intro rfl
      | exact Nat.le_of_ble_eq_true rfl
      | (simp only [AV.rowlenD, AV.rowlen, AV.ncells, mulSz, toN, Option.map_some, Option.map_none, cutL, List.length_take, List.length_drop, List.length_append, List.length_cons, List.length_nil, List.length_set, Option.some.injEq, Int.reduceToNat] <;> omega))
    all_goals exact FinC.t (y := .tup [.agg [.int .i64 _, .slS _, .slS _], .agg [.int .i64 _, .int .i64 _], .bool _]) rfl rfl ⟨⟨trivial, trivial, trivial, trivial⟩, ⟨trivial, trivial, trivial⟩, trivial, trivial⟩ (AVle.rfl' rfl)

set_option maxRecDepth 10000 in
set_option maxHeartbeats 8000000 in
theorem p54_no (ls rs : List (List UInt8)) (l c k n : Int) (b : Bool) (hr : rs.length ≤ 1000000000) (hs : sumL rs ≤ 1000000000000000) (h : (placeL ls l c && mayL rs n) = false) :
    Pure Try.prog 54 [.slS ls, .agg [.int .i64 l, .int .i64 c], .agg [.int .i64 k, .slS rs], .bool b, .int .i64 n] tyNo.av := by
  have k58 := p58 ls l c
  have k78 := p78 rs k n hr hs
  refine Pure.ofT tab2_ok Try.func54 rfl rfl [.cell 10 47, .cell 11 23, .tmp 12] rfl (by decide) rfl ⟨55, 6, (.node (.node (.node (.node (.node (.node (.leaf (.slS ls)) (J 0)) (J 1)) (J 2)) (.node (.node (.node (.leaf (.int .i64 n)) (J 0)) (J 1)) (J 2))) (.node (.node (.node (.node (.leaf (.agg [.int .i64 k, .slS rs])) (J 0)) (J 1)) (J 2)) (J 3))) (.node (.node (.node (.node (.node (.leaf (.agg [.int .i64 l, .int .i64 c])) (J 0)) (J 1)) (J 2)) (J 3)) (.node (.node (.node (.node (.leaf (.bool b)) (J 0)) (J 1)) (J 2)) (J 3)))), (OO 6)⟩ (by kernel_rfl) (by kernel_rfl) ?_
  repeat' (first
    | refine allProp_T ?_
    | exact trivial
    | (refine URun.id ?_; first
        | refine URun.nil ?_
        | refine URun.many tabs2 rfl rfl (by kernel_rfl) ?_ ?_
        | (refine URun.toCall 58 rfl ?_; first
          | refine URun.callB tabs2 rfl rfl rfl rfl k58 rfl rfl ?_ rfl rfl (fun h => ?_) (fun h => ?_))
        | (refine URun.toCall 78 rfl ?_; first
          | refine URun.callB tabs2 rfl rfl rfl rfl k78 rfl rfl ?_ rfl rfl (fun h => ?_) (fun h => ?_))
        | refine URun.same tabs2 rfl rfl rfl ?_
        | refine URun.same2 tabs2 rfl rfl rfl ?_
        | refine URun.split tabs2 rfl rfl rfl rfl (fun h => ?_) (fun h => ?_))
    | (refine TRun.id ?_; first
        | refine TRun.nil ?_
        | refine TRun.many rfl rfl (by kernel_rfl) ?_ ?_
        | (refine TRun.toCall 58 rfl ?_; first
          | refine TRun.callB rfl rfl rfl rfl k58 rfl rfl ?_ rfl rfl (fun h => ?_) (fun h => ?_))
        | (refine TRun.toCall 78 rfl ?_; first
          | refine TRun.callB rfl rfl rfl rfl k78 rfl rfl ?_ rfl rfl (fun h => ?_) (fun h => ?_))
        | refine TRun.same rfl rfl rfl ?_
        | refine TRun.same2 rfl rfl rfl ?_
        | refine TRun.split rfl rfl rfl rfl (fun h => ?_) (fun h => ?_))
    | (refine HoldsT.id ?_; first
        | refine HoldsT.seq ?_
        | refine HoldsT.regionU ?_
        | refine HoldsT.drawn tabs2 ?_
        | refine HoldsT.yes rfl ?_
        | refine HoldsT.no rfl ?_
        | refine HoldsT.cond rfl (fun h => ?_) (fun h => ?_)
        | refine HoldsT.block ?_
        | refine HoldsT.ret ?_
        | refine HoldsT.skip ?_
        | refine HoldsT.exit ?_)
    | (refine okTr_intro ?_; kernel_rfl)
    | exact absurd rfl h
    | refine allProp_C ?_ ?_
    | refine And.intro ?_ ?_
    | omega
    | (show _ < List.length _; omega)
    | exact rowlen_intro rfl
    | exact lenEq_intro rfl
    | exact Nat.le_of_ble_eq_true rfl
    | (simp only [AV.rowlenD, AV.rowlen, AV.ncells, mulSz, toN, Option.map_some, Option.map_none, cutL, List.length_take, List.length_drop, List.length_append, List.length_cons, List.length_nil, List.length_set, Option.some.injEq, Int.reduceToNat] <;> omega))
  all_goals first
    | exact FinC.t (y := .tup [.agg [.int .i64 _, .nilsl, .nilsl], .agg [.int .i64 _, .int .i64 _], .bool _]) rfl rfl ⟨⟨trivial, trivial, trivial, trivial⟩, ⟨trivial, trivial, trivial⟩, trivial, trivial⟩ noLe
    | (exfalso; simp_all)

set_option maxRecDepth 10000 in
set_option maxHeartbeats 8000000 in
theorem p54w (ls rs : List (List UInt8)) (l c k n : Int) (b : Bool) (hL : ls.length ≤ 1000000000) (hr : rs.length ≤ 1000000000) (hs : sumL rs ≤ 1000000000000000) (hp : placeL ls l c = true) (hm : mayL rs n = true)
    (a l2 c2 : Int) (old new : List (List UInt8)) (ho : old.length ≤ 1000000000) (hn : new.length ≤ 1000000000) (hN : (appL ls a old new).length ≤ 1000000000) (hNB : ∀ n : Nat, ((appL ls a old new).getD n []).length ≤ 1000000000000) (hN0 : 0 < (appL ls a old new).length) (hok : appOk ls a old new = true)
    (k79 : Pure Try.prog 79 [.slS ls, .agg [.int .i64 l, .int .i64 c], .agg [.int .i64 k, .slS rs], .bool b, .int .i64 n] (.tup [.agg [.int .i64 a, .slS old, .slS new], .agg [.int .i64 l2, .int .i64 c2], .bool true])) :
    Pure Try.prog 54 [.slS ls, .agg [.int .i64 l, .int .i64 c], .agg [.int .i64 k, .slS rs], .bool b, .int .i64 n] (TyR.av ⟨true, a, old, new, clL (appL ls a old new) l2, clC (appL ls a old new) l2 c2 false⟩) := by
  have k58 := p58 ls l c
  have k78 := p78 rs k n hr hs
  rw [hp] at k58
  rw [hm] at k78
  have k70 := p70 ls old new a hL ho hn
  rw [hok] at k70
  generalize appL ls a old new = now at *
  have k72 := p72 now l2 c2 false hN hNB hN0
  refine Pure.ofT tab2_ok Try.func54 rfl rfl [.cell 10 47, .cell 11 23, .tmp 12] rfl (by decide) rfl ⟨55, 6, (.node (.node (.node (.node (.node (.node (.leaf (.slS ls)) (J 0)) (J 1)) (J 2)) (.node (.node (.node (.leaf (.int .i64 n)) (J 0)) (J 1)) (J 2))) (.node (.node (.node (.node (.leaf (.agg [.int .i64 k, .slS rs])) (J 0)) (J 1)) (J 2)) (J 3))) (.node (.node (.node (.node (.node (.leaf (.agg [.int .i64 l, .int .i64 c])) (J 0)) (J 1)) (J 2)) (J 3)) (.node (.node (.node (.node (.leaf (.bool b)) (J 0)) (J 1)) (J 2)) (J 3)))), (OO 6)⟩ (by kernel_rfl) (by kernel_rfl) ?_
  repeat' (first
    | refine allProp_T ?_
    | exact trivial
    | (refine URun.id ?_; first
        | refine URun.nil ?_
        | refine URun.many tabs2 rfl rfl (by kernel_rfl) ?_ ?_
        | (refine URun.toCall 58 rfl ?_; first
          | refine URun.call tabs2 rfl rfl rfl rfl k58 rfl rfl ?_ rfl ?_)
        | (refine URun.toCall 78 rfl ?_; first
          | refine URun.call tabs2 rfl rfl rfl rfl k78 rfl rfl ?_ rfl ?_)
        | (refine URun.toCall 79 rfl ?_; first
          | refine URun.call tabs2 rfl rfl rfl rfl k79 rfl rfl ?_ rfl ?_)
        | (refine URun.toCall 70 rfl ?_; first
          | refine URun.call tabs2 rfl rfl rfl rfl k70 rfl rfl ?_ rfl ?_)
        | (refine URun.toCall 72 rfl ?_; first
          | refine URun.call tabs2 rfl rfl rfl rfl k72 rfl rfl ?_ rfl ?_)
        | refine URun.same tabs2 rfl rfl rfl ?_
        | refine URun.same2 tabs2 rfl rfl rfl ?_
        | refine URun.split tabs2 rfl rfl rfl rfl (fun h => ?_) (fun h => ?_))
    | (refine TRun.id ?_; first
        | refine TRun.nil ?_
        | refine TRun.many rfl rfl (by kernel_rfl) ?_ ?_
        | (refine TRun.toCall 58 rfl ?_; first
          | refine TRun.call rfl rfl rfl rfl k58 rfl rfl ?_ rfl ?_)
        | (refine TRun.toCall 78 rfl ?_; first
          | refine TRun.call rfl rfl rfl rfl k78 rfl rfl ?_ rfl ?_)
        | (refine TRun.toCall 79 rfl ?_; first
          | refine TRun.call rfl rfl rfl rfl k79 rfl rfl ?_ rfl ?_)
        | (refine TRun.toCall 70 rfl ?_; first
          | refine TRun.call rfl rfl rfl rfl k70 rfl rfl ?_ rfl ?_)
        | (refine TRun.toCall 72 rfl ?_; first
          | refine TRun.call rfl rfl rfl rfl k72 rfl rfl ?_ rfl ?_)
        | refine TRun.same rfl rfl rfl ?_
        | refine TRun.same2 rfl rfl rfl ?_
        | refine TRun.split rfl rfl rfl rfl (fun h => ?_) (fun h => ?_))
    | (refine HoldsT.id ?_; first
        | refine HoldsT.seq ?_
        | refine HoldsT.regionU ?_
        | refine HoldsT.drawn tabs2 ?_
        | refine HoldsT.yes rfl ?_
        | refine HoldsT.no rfl ?_
        | refine HoldsT.cond rfl (fun h => ?_) (fun h => ?_)
        | refine HoldsT.block ?_
        | refine HoldsT.ret ?_
        | refine HoldsT.skip ?_
        | refine HoldsT.exit ?_)
    | (refine okTr_intro ?_; kernel_rfl)
    | exact absurd rfl h
    | exact rowGk rfl rfl rfl
    | refine allProp_C ?_ ?_
    | refine And.intro ?_ ?_
    | omega
    | (show _ < List.length _; omega)
    | exact rowlen_intro rfl
    | exact lenEq_intro rfl
    | exact Nat.le_of_ble_eq_true rfl
    | (simp only [AV.rowlenD, AV.rowlen, AV.ncells, mulSz, toN, Option.map_some, Option.map_none, cutL, List.length_take, List.length_drop, List.length_append, List.length_cons, List.length_nil, List.length_set, Option.some.injEq, Int.reduceToNat] <;> omega))
  all_goals exact FinC.t (y := .tup [.agg [.int .i64 _, .slS _, .slS _], .agg [.int .i64 _, .int .i64 _], .bool _]) rfl rfl ⟨⟨trivial, trivial, trivial, trivial⟩, ⟨trivial, trivial, trivial⟩, trivial, trivial⟩ (AVle.rfl' rfl)

end Go.Proofs.Ytefbgdnobnemkaa.AM
