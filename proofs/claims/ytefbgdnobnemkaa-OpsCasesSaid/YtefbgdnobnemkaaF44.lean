/-
  Letters that are turned: the law, walked.
-/
import Derived.Test.YtefbgdnobnemkaaF43
set_option linter.unusedSimpArgs false
set_option linter.unusedVariables false
set_option linter.unusedSectionVars false
namespace Go.Proofs.Ytefbgdnobnemkaa.AM
open Go Go.RowKit


def sh16cao (ls now t : List (List UInt8)) (k fl fc tl tc i : Int) : TS := ⟨137, 8, (.node (.node (.node (.node (.node (.node (.node (.node (.leaf (.slS ls)) (J 0)) (J 1)) (J 2)) (.node (.node (.node (.leaf (.str [103, 85])) (J 0)) (J 1)) (J 2))) (J 4)) (.node (.node (J 3) (.node (.node (.node (.leaf (.slS now)) (J 0)) (J 1)) (J 2))) (J 4))) (.node (J 5) (.node (.node (.node (.node (.node (.leaf (.bool true)) (J 0)) (J 1)) (J 2)) (.node (.node (.node (.leaf (.slS t)) (J 0)) (J 1)) (J 2))) (J 4)))) (.node (J 6) (.node (J 5) (.node (.node (J 3) (.node (.node (.node (.leaf (.int .i64 i)) (J 0)) (J 1)) (J 2))) (.node (.node (.node (.node (.leaf (.ptr 15 0)) (J 0)) (J 1)) (J 2)) (J 3)))))), (.node (OO 7) (.node (OO 6) (.node (OO 5) (.node (OO 4) (.node (.node (.node (.node (.leaf (some ⟨true, false, .agg [.int .i64 k, .int .i64 fl, .int .i64 fc, .int .i64 tl, .int .i64 tc], 35⟩)) (OO 0)) (OO 1)) (OO 2)) (OO 3))))))⟩
def sh16cai (ls now t : List (List UInt8)) (k fl fc tl tc i j : Int) : TS := ⟨137, 8, (.node (.node (.node (.node (.node (.node (.node (.node (.leaf (.slS ls)) (J 0)) (J 1)) (J 2)) (.node (.node (.node (.leaf (.str [103, 85])) (J 0)) (J 1)) (J 2))) (.node (J 3) (.node (.node (.node (.leaf (.int .i64 j)) (J 0)) (J 1)) (J 2)))) (.node (.node (J 3) (.node (.node (.node (.leaf (.slS now)) (J 0)) (J 1)) (J 2))) (J 4))) (.node (J 5) (.node (.node (.node (.node (.node (.leaf (.bool true)) (J 0)) (J 1)) (J 2)) (.node (.node (.node (.leaf (.slS t)) (J 0)) (J 1)) (J 2))) (J 4)))) (.node (J 6) (.node (J 5) (.node (.node (J 3) (.node (.node (.node (.leaf (.int .i64 i)) (J 0)) (J 1)) (J 2))) (.node (.node (.node (.node (.leaf (.ptr 15 0)) (J 0)) (J 1)) (J 2)) (J 3)))))), (.node (OO 7) (.node (OO 6) (.node (OO 5) (.node (OO 4) (.node (.node (.node (.node (.leaf (some ⟨true, false, .agg [.int .i64 k, .int .i64 fl, .int .i64 fc, .int .i64 tl, .int .i64 tc], 35⟩)) (OO 0)) (OO 1)) (OO 2)) (OO 3))))))⟩
set_option maxRecDepth 10000 in
set_option maxHeartbeats 8000000 in
theorem p16caw (ls : List (List UInt8)) (kd a b c d k fl fc tl tc at' at2 x y x2 y2 sz : Int) (old new old2 now t : List (List UInt8)) (hlen : now.length = ls.length) (hN : now.length ≤ 1000000) (ht : t.length ≤ 1000000) (htB : ∀ n : Nat, (t.getD n []).length ≤ 1000000)
    (hz : ∀ i j : Nat, i < t.length → j < (t.getD i []).length → ¬ (97 ≤ (((t.getD i []).getD j 0).toNat : Int) ∧ (((t.getD i []).getD j 0).toNat : Int) ≤ 122))
    (k27 : Pure Try.prog 27 [.slS ls] (.bool true)) (k46 : Pure Try.prog 46 [.slS ls, .int .u8 kd, .int .u16 a, .int .u16 b, .int .u16 c, .int .u16 d] (.agg [.int .i64 k, .int .i64 fl, .int .i64 fc, .int .i64 tl, .int .i64 tc]))
    (k48 : Pure Try.prog 48 [.slS ls, .str [103, 85], .agg [.int .i64 k, .int .i64 fl, .int .i64 fc, .int .i64 tl, .int .i64 tc], .int .i64 1] (.tup [.agg [.int .i64 at', .slS old, .slS new], .agg [.int .i64 x, .int .i64 y], .bool true]))
    (k41 : Pure Try.prog 41 [.slS ls, .slG 3 [.int .i64 at', .slS old, .slS new]] (.tup [.slS now, .bool true]))
    (k51 : Pure Try.prog 51 [.slS now, .agg [.int .i64 k, .int .i64 fl, .int .i64 fc, .int .i64 tl, .int .i64 tc]] (.slS t))
    (k48b : Pure Try.prog 48 [.slS now, .str [103, 85], .agg [.int .i64 k, .int .i64 fl, .int .i64 fc, .int .i64 tl, .int .i64 tc], .int .i64 1] (.tup [.agg [.int .i64 at2, .slS old2, .slS old2], .agg [.int .i64 x2, .int .i64 y2], .bool true]))
    (k30 : Pure Try.prog 30 [.slS old2, .slS old2] (.bool true)) (k33a : Pure Try.prog 33 [.slS ls] (.int .i64 sz)) (k33b : Pure Try.prog 33 [.slS now] (.int .i64 sz)) :
    Pure Try.prog 16 [.slS ls, .int .u8 kd, .int .u16 a, .int .u16 b, .int .u16 c, .int .u16 d, .bool true] (.bool true) := by
  refine Pure.ofT tab2_ok Try.func16 rfl rfl [.tmp 14] rfl (by decide) rfl ⟨137, 8, (.node (.node (.node (.node (.node (.node (.node (.node (.leaf (.slS ls)) (J 0)) (J 1)) (J 2)) (J 3)) (J 4)) (.node (.node (.node (.node (.node (.leaf (.int .u16 c)) (J 0)) (J 1)) (J 2)) (J 3)) (J 4))) (.node (.node (.node (.node (.node (.node (.leaf (.int .u16 a)) (J 0)) (J 1)) (J 2)) (J 3)) (J 4)) (.node (.node (.node (.node (.node (.leaf (.bool true)) (J 0)) (J 1)) (J 2)) (J 3)) (J 4)))) (.node (.node (.node (.node (.node (.node (.node (.leaf (.int .u8 kd)) (J 0)) (J 1)) (J 2)) (J 3)) (J 4)) (.node (.node (.node (.node (.node (.leaf (.int .u16 d)) (J 0)) (J 1)) (J 2)) (J 3)) (J 4))) (.node (.node (.node (.node (.node (.node (.leaf (.int .u16 b)) (J 0)) (J 1)) (J 2)) (J 3)) (J 4)) (J 5)))), (OO 8)⟩ (by kernel_rfl) (by kernel_rfl) ?_
  repeat' (first
    | refine allProp_T ?_
    | exact trivial
    | (refine URun.id ?_; first
        | refine URun.nil ?_
        | refine URun.many tabs2 rfl rfl (by kernel_rfl) ?_ ?_
        | (refine URun.toCall 45 rfl ?_; first
          | refine URun.call tabs2 rfl rfl rfl rfl p45 rfl rfl ?_ rfl ?_)
        | (refine URun.toCall 27 rfl ?_; first
          | refine URun.call tabs2 rfl rfl rfl rfl k27 rfl rfl ?_ rfl ?_)
        | (refine URun.toCall 46 rfl ?_; first
          | refine URun.call tabs2 rfl rfl rfl rfl k46 rfl rfl ?_ rfl ?_)
        | (refine URun.toCall 48 rfl ?_; first
          | refine URun.call tabs2 rfl rfl rfl rfl k48 rfl rfl ?_ rfl ?_)
        | (refine URun.toCall 41 rfl ?_; first
          | refine URun.call tabs2 rfl rfl rfl rfl k41 rfl rfl ?_ rfl ?_)
        | (refine URun.toCall 51 rfl ?_; first
          | refine URun.call tabs2 rfl rfl rfl rfl k51 rfl rfl ?_ rfl ?_)
        | refine URun.same tabs2 rfl rfl rfl ?_
        | refine URun.same2 tabs2 rfl rfl rfl ?_
        | refine URun.yes tabs2 rfl rfl rfl rfl ?_
        | refine URun.no tabs2 rfl rfl rfl rfl ?_
        | refine URun.yes tabs2 rfl rfl (fun h => h rfl) rfl ?_
        | refine URun.no tabs2 rfl rfl (fun h => h rfl) rfl ?_
        | refine URun.yes tabs2 rfl rfl (by omega) rfl ?_
        | refine URun.no tabs2 rfl rfl (by omega) rfl ?_
        | refine URun.split tabs2 rfl rfl rfl rfl (fun h => ?_) (fun h => ?_))
    | (refine TRun.id ?_; first
        | refine TRun.nil ?_
        | refine TRun.many rfl rfl (by kernel_rfl) ?_ ?_
        | (refine TRun.toCall 45 rfl ?_; first
          | refine TRun.call rfl rfl rfl rfl p45 rfl rfl ?_ rfl ?_)
        | (refine TRun.toCall 27 rfl ?_; first
          | refine TRun.call rfl rfl rfl rfl k27 rfl rfl ?_ rfl ?_)
        | (refine TRun.toCall 46 rfl ?_; first
          | refine TRun.call rfl rfl rfl rfl k46 rfl rfl ?_ rfl ?_)
        | (refine TRun.toCall 48 rfl ?_; first
          | refine TRun.call rfl rfl rfl rfl k48 rfl rfl ?_ rfl ?_)
        | (refine TRun.toCall 41 rfl ?_; first
          | refine TRun.call rfl rfl rfl rfl k41 rfl rfl ?_ rfl ?_)
        | (refine TRun.toCall 51 rfl ?_; first
          | refine TRun.call rfl rfl rfl rfl k51 rfl rfl ?_ rfl ?_)
        | refine TRun.same rfl rfl rfl ?_
        | refine TRun.same2 rfl rfl rfl ?_
        | refine TRun.yes rfl rfl rfl rfl ?_
        | refine TRun.no rfl rfl rfl rfl ?_
        | refine TRun.yes rfl rfl (fun h => h rfl) rfl ?_
        | refine TRun.no rfl rfl (fun h => h rfl) rfl ?_
        | refine TRun.yes rfl rfl (by omega) rfl ?_
        | refine TRun.no rfl rfl (by omega) rfl ?_
        | refine TRun.split rfl rfl rfl rfl (fun h => ?_) (fun h => ?_))
    | (refine HoldsT.id ?_; first
        | refine HoldsT.seq ?_
        | refine HoldsT.regionU ?_
        | refine HoldsT.drawn tabs2 ?_
        | refine HoldsT.yes rfl ?_
        | refine HoldsT.no rfl ?_
        | refine HoldsT.cond rfl (fun h => ?_) (fun h => ?_)
        | refine HoldsT.block ?_
        | refine HoldsT.ret ?_
        | refine HoldsT.skip ?_
        | refine HoldsT.exit ?_)
    | (refine okTr_intro ?_; kernel_rfl)
    | exact absurd rfl h
    | exact rowGk rfl rfl rfl
    | refine allProp_C ?_ ?_
    | refine And.intro ?_ ?_
    | omega
    | (show _ < List.length _; omega)
    | exact rowlen_intro rfl
    | exact lenEq_intro rfl
    | exact Nat.le_of_ble_eq_true rfl
    | (simp only [AV.rowlenD, AV.rowlen, AV.ncells, mulSz, toN, Option.map_some, Option.map_none, cutL, List.length_take, List.length_drop, List.length_append, List.length_cons, List.length_nil, List.length_set, Option.some.injEq, Int.reduceToNat] <;> omega))
  refine HoldsT.loop (fun i : Int => sh16cao ls now t k fl fc tl tc i) (fun i => (t.length - i).toNat) (fun i => 0 ≤ i ∧ i ≤ t.length) 0 ?_ ?_ (fun _ => by kernel_rfl) ?_
  · refine WeakT.of ?_ ?_ (by kernel_rfl)
    · repeat' (first | exact TTle.junk _ _ | exact TTle.same _ | refine TTle.node ?_ ?_ | refine TTle.leaf ?_ | exact AVle.junk _ | exact AVle.rfl' rfl | exact AVle.nilS | exact AVle.nilB)
    · repeat' (first | exact OOle.none _ _ | exact OOle.same _ | refine OOle.node ?_ ?_ | exact OOle.leaf _ | exact OOle.gone _)
  · exact ⟨by simp, by simp⟩
  · intro i hi
    obtain ⟨g1, g2⟩ := hi
    have hb := htB i.toNat
    show HoldsT Try.prog _ (sh16cao ls now t k fl fc tl tc i) _
    repeat' (first
      | refine allProp_T ?_
      | exact trivial
      | (refine URun.id ?_; first
          | refine URun.nil ?_
          | refine URun.many tabs2 rfl rfl (by kernel_rfl) ?_ ?_
          | (refine URun.toCall 48 rfl ?_; first
            | refine URun.call tabs2 rfl rfl rfl rfl k48b rfl rfl ?_ rfl ?_)
          | (refine URun.toCall 30 rfl ?_; first
            | refine URun.call tabs2 rfl rfl rfl rfl k30 rfl rfl ?_ rfl ?_)
          | (refine URun.toCall 33 rfl ?_; first
            | refine URun.call tabs2 rfl rfl rfl rfl k33a rfl rfl ?_ rfl ?_
            | refine URun.call tabs2 rfl rfl rfl rfl k33b rfl rfl ?_ rfl ?_)
          | refine URun.same tabs2 rfl rfl rfl ?_
          | refine URun.same2 tabs2 rfl rfl rfl ?_
          | refine URun.yes tabs2 rfl rfl rfl rfl ?_
          | refine URun.no tabs2 rfl rfl rfl rfl ?_
          | refine URun.yes tabs2 rfl rfl (fun h => h rfl) rfl ?_
          | refine URun.no tabs2 rfl rfl (fun h => h rfl) rfl ?_
          | refine URun.split tabs2 rfl rfl rfl rfl (fun h => ?_) (fun h => ?_))
      | (refine TRun.id ?_; first
          | refine TRun.nil ?_
          | refine TRun.many rfl rfl (by kernel_rfl) ?_ ?_
          | (refine TRun.toCall 48 rfl ?_; first
            | refine TRun.call rfl rfl rfl rfl k48b rfl rfl ?_ rfl ?_)
          | (refine TRun.toCall 30 rfl ?_; first
            | refine TRun.call rfl rfl rfl rfl k30 rfl rfl ?_ rfl ?_)
          | (refine TRun.toCall 33 rfl ?_; first
            | refine TRun.call rfl rfl rfl rfl k33a rfl rfl ?_ rfl ?_
            | refine TRun.call rfl rfl rfl rfl k33b rfl rfl ?_ rfl ?_)
          | refine TRun.same rfl rfl rfl ?_
          | refine TRun.same2 rfl rfl rfl ?_
          | refine TRun.yes rfl rfl rfl rfl ?_
          | refine TRun.no rfl rfl rfl rfl ?_
          | refine TRun.yes rfl rfl (fun h => h rfl) rfl ?_
          | refine TRun.no rfl rfl (fun h => h rfl) rfl ?_
          | refine TRun.split rfl rfl rfl rfl (fun h => ?_) (fun h => ?_))
      | (refine HoldsT.id ?_; first
          | refine HoldsT.seq ?_
          | refine HoldsT.regionU ?_
          | refine HoldsT.drawn tabs2 ?_
          | refine HoldsT.yes rfl ?_
          | refine HoldsT.no rfl ?_
          | refine HoldsT.cond rfl (fun h => ?_) (fun h => ?_)
          | refine HoldsT.block ?_
          | refine HoldsT.ret ?_
          | refine HoldsT.skip ?_
          | refine HoldsT.exit ?_)
      | (refine okTr_intro ?_; kernel_rfl)
      | exact absurd rfl h
      | exact rowGk rfl rfl rfl
      | refine allProp_C ?_ ?_
      | refine And.intro ?_ ?_
      | omega
      | (show _ < List.length _; omega)
      | exact rowlen_intro rfl
      | exact lenEq_intro rfl
      | exact Nat.le_of_ble_eq_true rfl
      | (simp only [AV.rowlenD, AV.rowlen, AV.ncells, mulSz, toN, Option.map_some, Option.map_none, cutL, List.length_take, List.length_drop, List.length_append, List.length_cons, List.length_nil, List.length_set, Option.some.injEq, Int.reduceToNat] <;> omega))
    · refine HoldsT.loop (fun j : Int => sh16cai ls now t k fl fc tl tc i j) (fun j => ((t.getD i.toNat []).length - j).toNat) (fun j => 0 ≤ j ∧ j ≤ (t.getD i.toNat []).length) 0 ?_ ?_ (fun _ => by kernel_rfl) ?_
      · refine WeakT.of ?_ ?_ (by kernel_rfl)
        · repeat' (first | exact TTle.junk _ _ | exact TTle.same _ | refine TTle.node ?_ ?_ | refine TTle.leaf ?_ | exact AVle.junk _ | exact AVle.rfl' rfl | exact AVle.nilS | exact AVle.nilB)
        · repeat' (first | exact OOle.none _ _ | exact OOle.same _ | refine OOle.node ?_ ?_ | exact OOle.leaf _ | exact OOle.gone _)
      · exact ⟨by simp, by simp⟩
      · intro j hj
        obtain ⟨g3, g4⟩ := hj
        show HoldsT Try.prog _ (sh16cai ls now t k fl fc tl tc i j) _
        repeat' (first
          | refine allProp_T ?_
          | exact trivial
          | (refine URun.id ?_; first
              | refine URun.nil ?_
              | refine URun.many tabs2 rfl rfl (by kernel_rfl) ?_ ?_
              | refine URun.same tabs2 rfl rfl rfl ?_
              | refine URun.same2 tabs2 rfl rfl rfl ?_
              | refine URun.split tabs2 rfl rfl rfl rfl (fun h => ?_) (fun h => ?_))
          | (refine TRun.id ?_; first
              | refine TRun.nil ?_
              | refine TRun.many rfl rfl (by kernel_rfl) ?_ ?_
              | refine TRun.same rfl rfl rfl ?_
              | refine TRun.same2 rfl rfl rfl ?_
              | refine TRun.split rfl rfl rfl rfl (fun h => ?_) (fun h => ?_))
          | (refine HoldsT.id ?_; first
              | refine HoldsT.seq ?_
              | refine HoldsT.regionU ?_
              | refine HoldsT.drawn tabs2 ?_
              | refine HoldsT.yes rfl ?_
              | refine HoldsT.no rfl ?_
              | refine HoldsT.cond rfl (fun h => ?_) (fun h => ?_)
              | refine HoldsT.block ?_
              | refine HoldsT.ret ?_
              | refine HoldsT.skip ?_
              | refine HoldsT.exit ?_)
          | (refine okTr_intro ?_; kernel_rfl)
          | exact absurd rfl h
          | refine allProp_C ?_ ?_
          | refine And.intro ?_ ?_
          | omega
          | (show _ < List.length _; omega)
          | exact rowlen_intro rfl
          | exact lenEq_intro rfl
          | exact Nat.le_of_ble_eq_true rfl
          | (simp only [AV.rowlenD, AV.rowlen, AV.ncells, mulSz, toN, Option.map_some, Option.map_none, cutL, List.length_take, List.length_drop, List.length_append, List.length_cons, List.length_nil, List.length_set, Option.some.injEq, Int.reduceToNat] <;> omega))
        all_goals first
          | (exfalso; exact hz i.toNat j.toNat (by omega) (by omega) ⟨by omega, by omega⟩)
          | (refine ⟨j + 1, ⟨by omega, by omega, by omega⟩, ?_⟩
             refine WeakT.of ?_ ?_ (by kernel_rfl)
             · repeat' (first | exact TTle.junk _ _ | exact TTle.same _ | refine TTle.node ?_ ?_ | refine TTle.leaf ?_ | exact AVle.junk _ | exact AVle.rfl' rfl | exact AVle.nilS | exact AVle.nilB)
             · repeat' (first | exact OOle.none _ _ | exact OOle.same _ | refine OOle.node ?_ ?_ | exact OOle.leaf _ | exact OOle.gone _))
          | (refine ⟨i + 1, ⟨by omega, by omega, by omega⟩, ?_⟩
             refine WeakT.of ?_ ?_ (by kernel_rfl)
             · repeat' (first | exact TTle.junk _ _ | exact TTle.same _ | refine TTle.node ?_ ?_ | refine TTle.leaf ?_ | exact AVle.junk _ | exact AVle.rfl' rfl | exact AVle.nilS | exact AVle.nilB)
             · repeat' (first | exact OOle.none _ _ | exact OOle.same _ | refine OOle.node ?_ ?_ | exact OOle.leaf _ | exact OOle.gone _))
    all_goals exact FinC.te (y := .bool true) rfl rfl trivial rfl

def sh16smo (ls now t : List (List UInt8)) (k fl fc tl tc i : Int) : TS := ⟨137, 8, (.node (.node (.node (.node (.node (.node (.node (.node (.leaf (.slS ls)) (J 0)) (J 1)) (J 2)) (.node (.node (.node (.leaf (.str [103, 117])) (J 0)) (J 1)) (J 2))) (J 4)) (.node (.node (J 3) (.node (.node (.node (.leaf (.slS now)) (J 0)) (J 1)) (J 2))) (J 4))) (.node (J 5) (.node (.node (.node (.node (.node (.leaf (.bool false)) (J 0)) (J 1)) (J 2)) (.node (.node (.node (.leaf (.slS t)) (J 0)) (J 1)) (J 2))) (J 4)))) (.node (J 6) (.node (J 5) (.node (.node (J 3) (.node (.node (.node (.leaf (.int .i64 i)) (J 0)) (J 1)) (J 2))) (.node (.node (.node (.node (.leaf (.ptr 15 0)) (J 0)) (J 1)) (J 2)) (J 3)))))), (.node (OO 7) (.node (OO 6) (.node (OO 5) (.node (OO 4) (.node (.node (.node (.node (.leaf (some ⟨true, false, .agg [.int .i64 k, .int .i64 fl, .int .i64 fc, .int .i64 tl, .int .i64 tc], 35⟩)) (OO 0)) (OO 1)) (OO 2)) (OO 3))))))⟩
def sh16smi (ls now t : List (List UInt8)) (k fl fc tl tc i j : Int) : TS := ⟨137, 8, (.node (.node (.node (.node (.node (.node (.node (.node (.leaf (.slS ls)) (J 0)) (J 1)) (J 2)) (.node (.node (.node (.leaf (.str [103, 117])) (J 0)) (J 1)) (J 2))) (.node (J 3) (.node (.node (.node (.leaf (.int .i64 j)) (J 0)) (J 1)) (J 2)))) (.node (.node (J 3) (.node (.node (.node (.leaf (.slS now)) (J 0)) (J 1)) (J 2))) (J 4))) (.node (J 5) (.node (.node (.node (.node (.node (.leaf (.bool false)) (J 0)) (J 1)) (J 2)) (.node (.node (.node (.leaf (.slS t)) (J 0)) (J 1)) (J 2))) (J 4)))) (.node (J 6) (.node (J 5) (.node (.node (J 3) (.node (.node (.node (.leaf (.int .i64 i)) (J 0)) (J 1)) (J 2))) (.node (.node (.node (.node (.leaf (.ptr 15 0)) (J 0)) (J 1)) (J 2)) (J 3)))))), (.node (OO 7) (.node (OO 6) (.node (OO 5) (.node (OO 4) (.node (.node (.node (.node (.leaf (some ⟨true, false, .agg [.int .i64 k, .int .i64 fl, .int .i64 fc, .int .i64 tl, .int .i64 tc], 35⟩)) (OO 0)) (OO 1)) (OO 2)) (OO 3))))))⟩
set_option maxRecDepth 10000 in
set_option maxHeartbeats 8000000 in
theorem p16smw (ls : List (List UInt8)) (kd a b c d k fl fc tl tc at' at2 x y x2 y2 sz : Int) (old new old2 now t : List (List UInt8)) (hlen : now.length = ls.length) (hN : now.length ≤ 1000000) (ht : t.length ≤ 1000000) (htB : ∀ n : Nat, (t.getD n []).length ≤ 1000000)
    (hz : ∀ i j : Nat, i < t.length → j < (t.getD i []).length → ¬ (65 ≤ (((t.getD i []).getD j 0).toNat : Int) ∧ (((t.getD i []).getD j 0).toNat : Int) ≤ 90))
    (k27 : Pure Try.prog 27 [.slS ls] (.bool true)) (k46 : Pure Try.prog 46 [.slS ls, .int .u8 kd, .int .u16 a, .int .u16 b, .int .u16 c, .int .u16 d] (.agg [.int .i64 k, .int .i64 fl, .int .i64 fc, .int .i64 tl, .int .i64 tc]))
    (k48 : Pure Try.prog 48 [.slS ls, .str [103, 117], .agg [.int .i64 k, .int .i64 fl, .int .i64 fc, .int .i64 tl, .int .i64 tc], .int .i64 1] (.tup [.agg [.int .i64 at', .slS old, .slS new], .agg [.int .i64 x, .int .i64 y], .bool true]))
    (k41 : Pure Try.prog 41 [.slS ls, .slG 3 [.int .i64 at', .slS old, .slS new]] (.tup [.slS now, .bool true]))
    (k51 : Pure Try.prog 51 [.slS now, .agg [.int .i64 k, .int .i64 fl, .int .i64 fc, .int .i64 tl, .int .i64 tc]] (.slS t))
    (k48b : Pure Try.prog 48 [.slS now, .str [103, 117], .agg [.int .i64 k, .int .i64 fl, .int .i64 fc, .int .i64 tl, .int .i64 tc], .int .i64 1] (.tup [.agg [.int .i64 at2, .slS old2, .slS old2], .agg [.int .i64 x2, .int .i64 y2], .bool true]))
    (k30 : Pure Try.prog 30 [.slS old2, .slS old2] (.bool true)) (k33a : Pure Try.prog 33 [.slS ls] (.int .i64 sz)) (k33b : Pure Try.prog 33 [.slS now] (.int .i64 sz)) :
    Pure Try.prog 16 [.slS ls, .int .u8 kd, .int .u16 a, .int .u16 b, .int .u16 c, .int .u16 d, .bool false] (.bool true) := by
  refine Pure.ofT tab2_ok Try.func16 rfl rfl [.tmp 14] rfl (by decide) rfl ⟨137, 8, (.node (.node (.node (.node (.node (.node (.node (.node (.leaf (.slS ls)) (J 0)) (J 1)) (J 2)) (J 3)) (J 4)) (.node (.node (.node (.node (.node (.leaf (.int .u16 c)) (J 0)) (J 1)) (J 2)) (J 3)) (J 4))) (.node (.node (.node (.node (.node (.node (.leaf (.int .u16 a)) (J 0)) (J 1)) (J 2)) (J 3)) (J 4)) (.node (.node (.node (.node (.node (.leaf (.bool false)) (J 0)) (J 1)) (J 2)) (J 3)) (J 4)))) (.node (.node (.node (.node (.node (.node (.node (.leaf (.int .u8 kd)) (J 0)) (J 1)) (J 2)) (J 3)) (J 4)) (.node (.node (.node (.node (.node (.leaf (.int .u16 d)) (J 0)) (J 1)) (J 2)) (J 3)) (J 4))) (.node (.node (.node (.node (.node (.node (.leaf (.int .u16 b)) (J 0)) (J 1)) (J 2)) (J 3)) (J 4)) (J 5)))), (OO 8)⟩ (by kernel_rfl) (by kernel_rfl) ?_
  repeat' (first
    | refine allProp_T ?_
    | exact trivial
    | (refine URun.id ?_; first
        | refine URun.nil ?_
        | refine URun.many tabs2 rfl rfl (by kernel_rfl) ?_ ?_
        | (refine URun.toCall 45 rfl ?_; first
          | refine URun.call tabs2 rfl rfl rfl rfl p45 rfl rfl ?_ rfl ?_)
        | (refine URun.toCall 27 rfl ?_; first
          | refine URun.call tabs2 rfl rfl rfl rfl k27 rfl rfl ?_ rfl ?_)
        | (refine URun.toCall 46 rfl ?_; first
          | refine URun.call tabs2 rfl rfl rfl rfl k46 rfl rfl ?_ rfl ?_)
        | (refine URun.toCall 48 rfl ?_; first
          | refine URun.call tabs2 rfl rfl rfl rfl k48 rfl rfl ?_ rfl ?_)
        | (refine URun.toCall 41 rfl ?_; first
          | refine URun.call tabs2 rfl rfl rfl rfl k41 rfl rfl ?_ rfl ?_)
        | (refine URun.toCall 51 rfl ?_; first
          | refine URun.call tabs2 rfl rfl rfl rfl k51 rfl rfl ?_ rfl ?_)
        | refine URun.same tabs2 rfl rfl rfl ?_
        | refine URun.same2 tabs2 rfl rfl rfl ?_
        | refine URun.yes tabs2 rfl rfl rfl rfl ?_
        | refine URun.no tabs2 rfl rfl rfl rfl ?_
        | refine URun.yes tabs2 rfl rfl (fun h => h rfl) rfl ?_
        | refine URun.no tabs2 rfl rfl (fun h => h rfl) rfl ?_
        | refine URun.yes tabs2 rfl rfl (by omega) rfl ?_
        | refine URun.no tabs2 rfl rfl (by omega) rfl ?_
        | refine URun.split tabs2 rfl rfl rfl rfl (fun h => ?_) (fun h => ?_))
    | (refine TRun.id ?_; first
        | refine TRun.nil ?_
        | refine TRun.many rfl rfl (by kernel_rfl) ?_ ?_
        | (refine TRun.toCall 45 rfl ?_; first
          | refine TRun.call rfl rfl rfl rfl p45 rfl rfl ?_ rfl ?_)
        | (refine TRun.toCall 27 rfl ?_; first
          | refine TRun.call rfl rfl rfl rfl k27 rfl rfl ?_ rfl ?_)
        | (refine TRun.toCall 46 rfl ?_; first
          | refine TRun.call rfl rfl rfl rfl k46 rfl rfl ?_ rfl ?_)
        | (refine TRun.toCall 48 rfl ?_; first
          | refine TRun.call rfl rfl rfl rfl k48 rfl rfl ?_ rfl ?_)
        | (refine TRun.toCall 41 rfl ?_; first
          | refine TRun.call rfl rfl rfl rfl k41 rfl rfl ?_ rfl ?_)
        | (refine TRun.toCall 51 rfl ?_; first
          | refine TRun.call rfl rfl rfl rfl k51 rfl rfl ?_ rfl ?_)
        | refine TRun.same rfl rfl rfl ?_
        | refine TRun.same2 rfl rfl rfl ?_
        | refine TRun.yes rfl rfl rfl rfl ?_
        | refine TRun.no rfl rfl rfl rfl ?_
        | refine TRun.yes rfl rfl (fun h => h rfl) rfl ?_
        | refine TRun.no rfl rfl (fun h => h rfl) rfl ?_
        | refine TRun.yes rfl rfl (by omega) rfl ?_
        | refine TRun.no rfl rfl (by omega) rfl ?_
        | refine TRun.split rfl rfl rfl rfl (fun h => ?_) (fun h => ?_))
    | (refine HoldsT.id ?_; first
        | refine HoldsT.seq ?_
        | refine HoldsT.regionU ?_
        | refine HoldsT.drawn tabs2 ?_
        | refine HoldsT.yes rfl ?_
        | refine HoldsT.no rfl ?_
        | refine HoldsT.cond rfl (fun h => ?_) (fun h => ?_)
        | refine HoldsT.block ?_
        | refine HoldsT.ret ?_
        | refine HoldsT.skip ?_
        | refine HoldsT.exit ?_)
    | (refine okTr_intro ?_; kernel_rfl)
    | exact absurd rfl h
    | exact rowGk rfl rfl rfl
    | refine allProp_C ?_ ?_
    | refine And.intro ?_ ?_
    | omega
    | (show _ < List.length _; omega)
    | exact rowlen_intro rfl
    | exact lenEq_intro rfl
    | exact Nat.le_of_ble_eq_true rfl
    | (simp only [AV.rowlenD, AV.rowlen, AV.ncells, mulSz, toN, Option.map_some, Option.map_none, cutL, List.length_take, List.length_drop, List.length_append, List.length_cons, List.length_nil, List.length_set, Option.some.injEq, Int.reduceToNat] <;> omega))
  refine HoldsT.loop (fun i : Int => sh16smo ls now t k fl fc tl tc i) (fun i => (t.length - i).toNat) (fun i => 0 ≤ i ∧ i ≤ t.length) 0 ?_ ?_ (fun _ => by kernel_rfl) ?_
  · refine WeakT.of ?_ ?_ (by kernel_rfl)
    · repeat' (first | exact TTle.junk _ _ | exact TTle.same _ | refine TTle.node ?_ ?_ | refine TTle.leaf ?_ | exact AVle.junk _ | exact AVle.rfl' rfl | exact AVle.nilS | exact AVle.nilB)
    · repeat' (first | exact OOle.none _ _ | exact OOle.same _ | refine OOle.node ?_ ?_ | exact OOle.leaf _ | exact OOle.gone _)
  · exact ⟨by simp, by simp⟩
  · intro i hi
    obtain ⟨g1, g2⟩ := hi
    have hb := htB i.toNat
    show HoldsT Try.prog _ (sh16smo ls now t k fl fc tl tc i) _
    repeat' (first
      | refine allProp_T ?_
      | exact trivial
      | (refine URun.id ?_; first
          | refine URun.nil ?_
          | refine URun.many tabs2 rfl rfl (by kernel_rfl) ?_ ?_
          | (refine URun.toCall 48 rfl ?_; first
            | refine URun.call tabs2 rfl rfl rfl rfl k48b rfl rfl ?_ rfl ?_)
          | (refine URun.toCall 30 rfl ?_; first
            | refine URun.call tabs2 rfl rfl rfl rfl k30 rfl rfl ?_ rfl ?_)
          | (refine URun.toCall 33 rfl ?_; first
            | refine URun.call tabs2 rfl rfl rfl rfl k33a rfl rfl ?_ rfl ?_
            | refine URun.call tabs2 rfl rfl rfl rfl k33b rfl rfl ?_ rfl ?_)
          | refine URun.same tabs2 rfl rfl rfl ?_
          | refine URun.same2 tabs2 rfl rfl rfl ?_
          | refine URun.yes tabs2 rfl rfl rfl rfl ?_
          | refine URun.no tabs2 rfl rfl rfl rfl ?_
          | refine URun.yes tabs2 rfl rfl (fun h => h rfl) rfl ?_
          | refine URun.no tabs2 rfl rfl (fun h => h rfl) rfl ?_
          | refine URun.split tabs2 rfl rfl rfl rfl (fun h => ?_) (fun h => ?_))
      | (refine TRun.id ?_; first
          | refine TRun.nil ?_
          | refine TRun.many rfl rfl (by kernel_rfl) ?_ ?_
          | (refine TRun.toCall 48 rfl ?_; first
            | refine TRun.call rfl rfl rfl rfl k48b rfl rfl ?_ rfl ?_)
          | (refine TRun.toCall 30 rfl ?_; first
            | refine TRun.call rfl rfl rfl rfl k30 rfl rfl ?_ rfl ?_)
          | (refine TRun.toCall 33 rfl ?_; first
            | refine TRun.call rfl rfl rfl rfl k33a rfl rfl ?_ rfl ?_
            | refine TRun.call rfl rfl rfl rfl k33b rfl rfl ?_ rfl ?_)
          | refine TRun.same rfl rfl rfl ?_
          | refine TRun.same2 rfl rfl rfl ?_
          | refine TRun.yes rfl rfl rfl rfl ?_
          | refine TRun.no rfl rfl rfl rfl ?_
          | refine TRun.yes rfl rfl (fun h => h rfl) rfl ?_
          | refine TRun.no rfl rfl (fun h => h rfl) rfl ?_
          | refine TRun.split rfl rfl rfl rfl (fun h => ?_) (fun h => ?_))
      | (refine HoldsT.id ?_; first
          | refine HoldsT.seq ?_
          | refine HoldsT.regionU ?_
          | refine HoldsT.drawn tabs2 ?_
          | refine HoldsT.yes rfl ?_
          | refine HoldsT.no rfl ?_
          | refine HoldsT.cond rfl (fun h => ?_) (fun h => ?_)
          | refine HoldsT.block ?_
          | refine HoldsT.ret ?_
          | refine HoldsT.skip ?_
          | refine HoldsT.exit ?_)
      | (refine okTr_intro ?_; kernel_rfl)
      | exact absurd rfl h
      | exact rowGk rfl rfl rfl
      | refine allProp_C ?_ ?_
      | refine And.intro ?_ ?_
      | omega
      | (show _ < List.length _; omega)
      | exact rowlen_intro rfl
      | exact lenEq_intro rfl
      | exact Nat.le_of_ble_eq_true rfl
      | (simp only [AV.rowlenD, AV.rowlen, AV.ncells, mulSz, toN, Option.map_some, Option.map_none, cutL, List.length_take, List.length_drop, List.length_append, List.length_cons, List.length_nil, List.length_set, Option.some.injEq, Int.reduceToNat] <;> omega))
    · refine HoldsT.loop (fun j : Int => sh16smi ls now t k fl fc tl tc i j) (fun j => ((t.getD i.toNat []).length - j).toNat) (fun j => 0 ≤ j ∧ j ≤ (t.getD i.toNat []).length) 0 ?_ ?_ (fun _ => by kernel_rfl) ?_
      · refine WeakT.of ?_ ?_ (by kernel_rfl)
        · repeat' (first | exact TTle.junk _ _ | exact TTle.same _ | refine TTle.node ?_ ?_ | refine TTle.leaf ?_ | exact AVle.junk _ | exact AVle.rfl' rfl | exact AVle.nilS | exact AVle.nilB)
        · repeat' (first | exact OOle.none _ _ | exact OOle.same _ | refine OOle.node ?_ ?_ | exact OOle.leaf _ | exact OOle.gone _)
      · exact ⟨by simp, by simp⟩
      · intro j hj
        obtain ⟨g3, g4⟩ := hj
        show HoldsT Try.prog _ (sh16smi ls now t k fl fc tl tc i j) _
        repeat' (first
          | refine allProp_T ?_
          | exact trivial
          | (refine URun.id ?_; first
              | refine URun.nil ?_
              | refine URun.many tabs2 rfl rfl (by kernel_rfl) ?_ ?_
              | refine URun.same tabs2 rfl rfl rfl ?_
              | refine URun.same2 tabs2 rfl rfl rfl ?_
              | refine URun.split tabs2 rfl rfl rfl rfl (fun h => ?_) (fun h => ?_))
          | (refine TRun.id ?_; first
              | refine TRun.nil ?_
              | refine TRun.many rfl rfl (by kernel_rfl) ?_ ?_
              | refine TRun.same rfl rfl rfl ?_
              | refine TRun.same2 rfl rfl rfl ?_
              | refine TRun.split rfl rfl rfl rfl (fun h => ?_) (fun h => ?_))
          | (refine HoldsT.id ?_; first
              | refine HoldsT.seq ?_
              | refine HoldsT.regionU ?_
              | refine HoldsT.drawn tabs2 ?_
              | refine HoldsT.yes rfl ?_
              | refine HoldsT.no rfl ?_
              | refine HoldsT.cond rfl (fun h => ?_) (fun h => ?_)
              | refine HoldsT.block ?_
              | refine HoldsT.ret ?_
              | refine HoldsT.skip ?_
              | refine HoldsT.exit ?_)
          | (refine okTr_intro ?_; kernel_rfl)
          | exact absurd rfl h
          | refine allProp_C ?_ ?_
          | refine And.intro ?_ ?_
          | omega
          | (show _ < List.length _; omega)
          | exact rowlen_intro rfl
          | exact lenEq_intro rfl
          | exact Nat.le_of_ble_eq_true rfl
          | (simp only [AV.rowlenD, AV.rowlen, AV.ncells, mulSz, toN, Option.map_some, Option.map_none, cutL, List.length_take, List.length_drop, List.length_append, List.length_cons, List.length_nil, List.length_set, Option.some.injEq, Int.reduceToNat] <;> omega))
        all_goals first
          | (exfalso; exact hz i.toNat j.toNat (by omega) (by omega) ⟨by omega, by omega⟩)
          | (refine ⟨j + 1, ⟨by omega, by omega, by omega⟩, ?_⟩
             refine WeakT.of ?_ ?_ (by kernel_rfl)
             · repeat' (first | exact TTle.junk _ _ | exact TTle.same _ | refine TTle.node ?_ ?_ | refine TTle.leaf ?_ | exact AVle.junk _ | exact AVle.rfl' rfl | exact AVle.nilS | exact AVle.nilB)
             · repeat' (first | exact OOle.none _ _ | exact OOle.same _ | refine OOle.node ?_ ?_ | exact OOle.leaf _ | exact OOle.gone _))
          | (refine ⟨i + 1, ⟨by omega, by omega, by omega⟩, ?_⟩
             refine WeakT.of ?_ ?_ (by kernel_rfl)
             · repeat' (first | exact TTle.junk _ _ | exact TTle.same _ | refine TTle.node ?_ ?_ | refine TTle.leaf ?_ | exact AVle.junk _ | exact AVle.rfl' rfl | exact AVle.nilS | exact AVle.nilB)
             · repeat' (first | exact OOle.none _ _ | exact OOle.same _ | refine OOle.node ?_ ?_ | exact OOle.leaf _ | exact OOle.gone _))
    all_goals exact FinC.te (y := .bool true) rfl rfl trivial rfl

end Go.Proofs.Ytefbgdnobnemkaa.AM
