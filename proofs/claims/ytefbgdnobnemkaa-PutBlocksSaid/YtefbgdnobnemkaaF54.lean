/-
  Blocks that are put: the law.
-/
import Derived.Test.YtefbgdnobnemkaaF51
set_option linter.unusedSimpArgs false
set_option linter.unusedVariables false
set_option linter.unusedSectionVars false
namespace Go.Proofs.Ytefbgdnobnemkaa.AM
open Go Go.RowKit

theorem wide_full {s : List UInt8} {n : Int} (h : n ≤ s.length) : wideL s n = s := by
  unfold wideL spc
  rw [show (max (n - (s.length : Int)) 0).toNat = 0 by omega]; simp
theorem wide_step {s : List UInt8} {n : Int} (h : (s.length : Int) < n) : wideL (s ++ [32]) n = wideL s n := by
  unfold wideL spc
  rw [List.length_append, List.append_assoc, show (max (n - (s.length : Int)) 0).toNat = (max (n - ((s.length + [(32 : UInt8)].length : Nat) : Int)) 0).toNat + 1 by simp only [List.length_cons, List.length_nil]; omega, List.replicate_succ]; rfl
def sh20o (ls bs now : List (List UInt8)) (l c ql qc col i : Int) : TS := ⟨143, 8, (.node (.node (.node (.node (.node (.node (.node (.node (.leaf (.slS ls)) (J 0)) (J 1)) (J 2)) (J 3)) (J 4)) (J 5)) (.node (.node (.node (J 3) (.node (.node (.node (.leaf (.int .i64 i)) (J 0)) (J 1)) (J 2))) (J 4)) (J 5))) (.node (.node (.node (.node (.node (.node (.node (.leaf (.slS bs)) (J 0)) (J 1)) (J 2)) (.node (.node (.node (.leaf (.int .i64 col)) (J 0)) (J 1)) (J 2))) (J 4)) (.node (J 4) (.node (.node (.node (.node (.leaf (.ptr 13 0)) (J 0)) (J 1)) (J 2)) (J 3)))) (.node (.node (J 4) (.node (.node (.node (.node (.leaf (.ptr 11 0)) (J 0)) (J 1)) (J 2)) (J 3))) (.node (J 4) (.node (.node (.node (.node (.leaf (.slS now)) (J 0)) (J 1)) (J 2)) (J 3)))))), (.node (OO 7) (.node (.node (OO 5) (.node (OO 4) (.node (.node (.node (.node (.leaf (some ⟨true, false, .agg [.int .i64 ql, .int .i64 qc], 23⟩)) (OO 0)) (OO 1)) (OO 2)) (OO 3)))) (.node (.node (OO 4) (.node (.node (.node (.node (.leaf (some ⟨true, false, .agg [.int .i64 l, .int .i64 c], 23⟩)) (OO 0)) (OO 1)) (OO 2)) (OO 3))) (OO 5))))⟩
def sh20i (ls bs now : List (List UInt8)) (l c ql qc col i : Int) (x : List UInt8) : TS := ⟨143, 8, (.node (.node (.node (.node (.node (.node (.node (.node (.leaf (.slS ls)) (J 0)) (J 1)) (J 2)) (J 3)) (J 4)) (J 5)) (.node (.node (.node (J 3) (.node (.node (.node (.leaf (.int .i64 i)) (J 0)) (J 1)) (J 2))) (J 4)) (J 5))) (.node (.node (.node (.node (.node (.node (.node (.leaf (.slS bs)) (J 0)) (J 1)) (J 2)) (.node (.node (.node (.leaf (.int .i64 col)) (J 0)) (J 1)) (J 2))) (J 4)) (.node (J 4) (.node (.node (.node (.node (.leaf (.ptr 13 0)) (J 0)) (J 1)) (J 2)) (J 3)))) (.node (.node (.node (J 3) (.node (.node (.node (.leaf (.str x)) (J 0)) (J 1)) (J 2))) (.node (.node (.node (.node (.leaf (.ptr 11 0)) (J 0)) (J 1)) (J 2)) (J 3))) (.node (J 4) (.node (.node (.node (.node (.leaf (.slS now)) (J 0)) (J 1)) (J 2)) (J 3)))))), (.node (OO 7) (.node (.node (OO 5) (.node (OO 4) (.node (.node (.node (.node (.leaf (some ⟨true, false, .agg [.int .i64 ql, .int .i64 qc], 23⟩)) (OO 0)) (OO 1)) (OO 2)) (OO 3)))) (.node (.node (OO 4) (.node (.node (.node (.node (.leaf (some ⟨true, false, .agg [.int .i64 l, .int .i64 c], 23⟩)) (OO 0)) (OO 1)) (OO 2)) (OO 3))) (OO 5))))⟩

set_option maxRecDepth 10000 in
set_option maxHeartbeats 8000000 in
theorem p20w_true (ls bs old new now : List (List UInt8)) (a d ql qc at' : Int) (hL : ls.length ≤ 40) (hB : ∀ n : Nat, (ls.getD n []).length ≤ 1200) (h0 : 0 < ls.length) (hb0 : 0 < bs.length) (hb8 : bs.length ≤ 8) (hbB : ∀ n : Nat, (bs.getD n []).length ≤ 1200) (hpl : placeL ls (plL ls a) (plC ls a d) = true)
    (hnl : (now.length : Int) = max (ls.length : Int) (plL ls a + bs.length)) (hrow : ∀ i : Nat, i < bs.length → now.getD ((plL ls a).toNat + i) [] = rowB ls bs (plL ls a) (plC ls a d) i)
    (k27 : Pure Try.prog 27 [.slS ls] (.bool true)) (k27m : Pure Try.prog 27 [.slS bs] (.bool true)) (k28 : Pure Try.prog 28 [.slS ls, .int .u16 a, .int .u16 d] (.agg [.int .i64 (plL ls a), .int .i64 (plC ls a d)]))
    (k54 : Pure Try.prog 54 [.slS ls, .agg [.int .i64 (plL ls a), .int .i64 (plC ls a d)], .agg [.int .i64 2, .slS bs], .bool true, .int .i64 1] (.tup [.agg [.int .i64 at', .slS old, .slS new], .agg [.int .i64 ql, .int .i64 qc], .bool true]))
    (k41 : Pure Try.prog 41 [.slS ls, .slG 3 [.int .i64 at', .slS old, .slS new]] (.tup [.slS now, .bool true]))
    (k49 : Pure Try.prog 49 [.slS now, .agg [.int .i64 (plL ls a), .int .i64 (plC ls a d)], .bool false] (.agg [.int .i64 ql, .int .i64 qc])) :
    Pure Try.prog 20 [.slS ls, .slS bs, .int .u16 a, .int .u16 d, .bool true] (.bool true) := by
  obtain ⟨q1, q2, q3, q4⟩ := of_decide_eq_true hpl
  have hbl := hB (plL ls a).toNat
  have hmx : ¬ (now.length : Int) ≠ max (ls.length : Int) (plL ls a + bs.length) := fun h => h hnl
  refine Pure.ofT tab2_ok Try.func20 rfl rfl [.tmp 10] rfl (by decide) rfl ⟨143, 8, (.node (.node (.node (.node (.node (.node (.node (.node (.leaf (.slS ls)) (J 0)) (J 1)) (J 2)) (J 3)) (J 4)) (.node (.node (.node (.node (.node (.leaf (.bool true)) (J 0)) (J 1)) (J 2)) (J 3)) (J 4))) (.node (.node (.node (.node (.node (.node (.leaf (.int .u16 a)) (J 0)) (J 1)) (J 2)) (J 3)) (J 4)) (J 5))) (.node (.node (.node (.node (.node (.node (.node (.leaf (.slS bs)) (J 0)) (J 1)) (J 2)) (J 3)) (J 4)) (J 5)) (.node (.node (.node (.node (.node (.node (.leaf (.int .u16 d)) (J 0)) (J 1)) (J 2)) (J 3)) (J 4)) (J 5)))), (OO 8)⟩ (by kernel_rfl) (by kernel_rfl) ?_
  repeat' (first
    | refine allProp_T ?_
    | exact trivial
    | (refine URun.id ?_; first
        | refine URun.nil ?_
        | refine URun.many tabs2 rfl rfl (by kernel_rfl) ?_ ?_
        | (refine URun.toCall 52 rfl ?_; first
          | refine URun.call tabs2 rfl rfl rfl rfl p52 rfl rfl ?_ rfl ?_)
        | (refine URun.toCall 27 rfl ?_; first
          | refine URun.call tabs2 rfl rfl rfl rfl k27 rfl rfl ?_ rfl ?_
          | refine URun.call tabs2 rfl rfl rfl rfl k27m rfl rfl ?_ rfl ?_)
        | (refine URun.toCall 28 rfl ?_; first
          | refine URun.call tabs2 rfl rfl rfl rfl k28 rfl rfl ?_ rfl ?_)
        | (refine URun.toCall 54 rfl ?_; first
          | refine URun.call tabs2 rfl rfl rfl rfl k54 rfl rfl ?_ rfl ?_)
        | (refine URun.toCall 41 rfl ?_; first
          | refine URun.call tabs2 rfl rfl rfl rfl k41 rfl rfl ?_ rfl ?_)
        | refine URun.same tabs2 rfl rfl rfl ?_
        | refine URun.same2 tabs2 rfl rfl rfl ?_
        | refine URun.yes tabs2 rfl rfl rfl rfl ?_
        | refine URun.no tabs2 rfl rfl rfl rfl ?_
        | refine URun.yes tabs2 rfl rfl hmx rfl ?_
        | refine URun.no tabs2 rfl rfl hmx rfl ?_
        | refine URun.yes tabs2 rfl rfl (by omega) rfl ?_
        | refine URun.no tabs2 rfl rfl (by omega) rfl ?_
        | refine URun.split tabs2 rfl rfl rfl rfl (fun h => ?_) (fun h => ?_))
    | (refine TRun.id ?_; first
        | refine TRun.nil ?_
        | refine TRun.many rfl rfl (by kernel_rfl) ?_ ?_
        | (refine TRun.toCall 52 rfl ?_; first
          | refine TRun.call rfl rfl rfl rfl p52 rfl rfl ?_ rfl ?_)
        | (refine TRun.toCall 27 rfl ?_; first
          | refine TRun.call rfl rfl rfl rfl k27 rfl rfl ?_ rfl ?_
          | refine TRun.call rfl rfl rfl rfl k27m rfl rfl ?_ rfl ?_)
        | (refine TRun.toCall 28 rfl ?_; first
          | refine TRun.call rfl rfl rfl rfl k28 rfl rfl ?_ rfl ?_)
        | (refine TRun.toCall 54 rfl ?_; first
          | refine TRun.call rfl rfl rfl rfl k54 rfl rfl ?_ rfl ?_)
        | (refine TRun.toCall 41 rfl ?_; first
          | refine TRun.call rfl rfl rfl rfl k41 rfl rfl ?_ rfl ?_)
        | refine TRun.same rfl rfl rfl ?_
        | refine TRun.same2 rfl rfl rfl ?_
        | refine TRun.yes rfl rfl rfl rfl ?_
        | refine TRun.no rfl rfl rfl rfl ?_
        | refine TRun.yes rfl rfl hmx rfl ?_
        | refine TRun.no rfl rfl hmx rfl ?_
        | refine TRun.yes rfl rfl (by omega) rfl ?_
        | refine TRun.no rfl rfl (by omega) rfl ?_
        | refine TRun.split rfl rfl rfl rfl (fun h => ?_) (fun h => ?_))
    | (refine HoldsT.id ?_; first
        | refine HoldsT.seq ?_
        | refine HoldsT.regionU ?_
        | refine HoldsT.drawn tabs2 ?_
        | refine HoldsT.yes rfl ?_
        | refine HoldsT.no rfl ?_
        | refine HoldsT.cond rfl (fun h => ?_) (fun h => ?_)
        | refine HoldsT.block ?_
        | refine HoldsT.ret ?_
        | refine HoldsT.skip ?_
        | refine HoldsT.exit ?_)
    | (refine okTr_intro ?_; kernel_rfl)
    | exact absurd rfl h
    | exact rowGk rfl rfl rfl
    | refine allProp_C ?_ ?_
    | refine And.intro ?_ ?_
    | omega
    | (show _ < List.length _; omega)
    | exact rowlen_intro rfl
    | exact lenEq_intro rfl
    | exact Nat.le_of_ble_eq_true rfl
    | (simp only [AV.rowlenD, AV.rowlen, AV.ncells, mulSz, toN, Option.map_some, Option.map_none, cutL, List.length_take, List.length_drop, List.length_append, List.length_cons, List.length_nil, List.length_set, Option.some.injEq, Int.reduceToNat] <;> omega))
  refine HoldsT.loop (fun i : Int => sh20o ls bs now (plL ls a) (plC ls a d) ql qc (plC ls a d) i) (fun i => (bs.length - i).toNat) (fun i => 0 ≤ i ∧ i ≤ bs.length) 0 ?_ ?_ (fun _ => by kernel_rfl) ?_
  · refine WeakT.of ?_ ?_ (by kernel_rfl)
    · repeat' (first | exact TTle.junk _ _ | exact TTle.same _ | refine TTle.node ?_ ?_ | refine TTle.leaf ?_ | exact AVle.junk _ | exact AVle.rfl' rfl | exact AVle.nilS | exact AVle.nilB)
    · repeat' (first | exact OOle.none _ _ | exact OOle.same _ | refine OOle.node ?_ ?_ | exact OOle.leaf _ | exact OOle.gone _)
  · exact ⟨by simp, by simp⟩
  · intro i hi
    obtain ⟨g1, g2⟩ := hi
    have hli := hB (plL ls a + i).toNat
    have hbi := hbB i.toNat
    have hw := wideL_len (ls.getD (plL ls a + i).toNat []) (plC ls a d)
    have hout : ¬ plL ls a + i < ls.length → ls.getD (plL ls a + i).toNat [] = [] := fun h => by rw [List.getD_eq_getElem?_getD, List.getElem?_eq_none (by omega)]; rfl
    show HoldsT Try.prog _ (sh20o ls bs now (plL ls a) (plC ls a d) ql qc (plC ls a d) i) _
    repeat' (first
      | refine allProp_T ?_
      | exact trivial
      | (refine URun.id ?_; first
          | refine URun.nil ?_
          | refine URun.many tabs2 rfl rfl (by kernel_rfl) ?_ ?_
          | (refine URun.toCall 49 rfl ?_; first
            | refine URun.call tabs2 rfl rfl rfl rfl k49 rfl rfl ?_ rfl ?_)
          | refine URun.same tabs2 rfl rfl rfl ?_
          | refine URun.same2 tabs2 rfl rfl rfl ?_
          | refine URun.yes tabs2 rfl rfl rfl rfl ?_
          | refine URun.no tabs2 rfl rfl rfl rfl ?_
          | refine URun.split tabs2 rfl rfl rfl rfl (fun h => ?_) (fun h => ?_))
      | (refine TRun.id ?_; first
          | refine TRun.nil ?_
          | refine TRun.many rfl rfl (by kernel_rfl) ?_ ?_
          | (refine TRun.toCall 49 rfl ?_; first
            | refine TRun.call rfl rfl rfl rfl k49 rfl rfl ?_ rfl ?_)
          | refine TRun.same rfl rfl rfl ?_
          | refine TRun.same2 rfl rfl rfl ?_
          | refine TRun.yes rfl rfl rfl rfl ?_
          | refine TRun.no rfl rfl rfl rfl ?_
          | refine TRun.split rfl rfl rfl rfl (fun h => ?_) (fun h => ?_))
      | (refine HoldsT.id ?_; first
          | refine HoldsT.seq ?_
          | refine HoldsT.regionU ?_
          | refine HoldsT.drawn tabs2 ?_
          | refine HoldsT.yes rfl ?_
          | refine HoldsT.no rfl ?_
          | refine HoldsT.cond rfl (fun h => ?_) (fun h => ?_)
          | refine HoldsT.block ?_
          | refine HoldsT.ret ?_
          | refine HoldsT.skip ?_
          | refine HoldsT.exit ?_)
      | (refine okTr_intro ?_; kernel_rfl)
      | exact absurd rfl h
      | refine allProp_C ?_ ?_
      | refine And.intro ?_ ?_
      | omega
      | (show _ < List.length _; omega)
      | exact rowlen_intro rfl
      | exact lenEq_intro rfl
      | exact Nat.le_of_ble_eq_true rfl
      | (simp only [AV.rowlenD, AV.rowlen, AV.ncells, mulSz, toN, Option.map_some, Option.map_none, cutL, List.length_take, List.length_drop, List.length_append, List.length_cons, List.length_nil, List.length_set, Option.some.injEq, Int.reduceToNat] <;> omega))
    all_goals first
      | exact FinC.te (y := .bool true) rfl rfl trivial rfl
      | (refine HoldsT.loop (fun x : List UInt8 => sh20i ls bs now (plL ls a) (plC ls a d) ql qc (plC ls a d) i x) (fun x => ((plC ls a d) - x.length).toNat) (fun x => wideL x (plC ls a d) = wideL (ls.getD (plL ls a + i).toNat []) (plC ls a d)) (ls.getD (plL ls a + i).toNat []) ?_ ?_ (fun _ => by kernel_rfl) ?_
         · refine WeakT.of ?_ ?_ (by kernel_rfl)
           · repeat' (first | exact TTle.junk _ _ | exact TTle.same _ | refine TTle.node ?_ ?_ | refine TTle.leaf ?_ | exact AVle.junk _ | exact AVle.rfl' rfl | exact AVle.nilS | exact AVle.nilB | exact AVle.rfl' (congrArg AV.str (hout ‹_›).symm))
           · repeat' (first | exact OOle.none _ _ | exact OOle.same _ | refine OOle.node ?_ ?_ | exact OOle.leaf _ | exact OOle.gone _)
         · rfl
         · intro x hx
           have hxl := wideL_len x (plC ls a d)
           rw [hx] at hxl
           have hcmp : ¬ (x.length : Int) < (plC ls a d) → now.getD (plL ls a + i).toNat [] = cutL x none (some ((plC ls a d)).toNat) ++ bs.getD i.toNat [] ++ cutL x (some ((plC ls a d)).toNat) none := fun h => by
             rw [show (plL ls a + i).toNat = (plL ls a).toNat + i.toNat by omega, hrow i.toNat (by omega)]
             unfold rowB
             rw [show (plL ls a).toNat + i.toNat = (plL ls a + i).toNat by omega, ← hx, wide_full (by omega)]; rfl
           show HoldsT Try.prog _ (sh20i ls bs now (plL ls a) (plC ls a d) ql qc (plC ls a d) i x) _
           repeat' (first
             | refine allProp_T ?_
             | exact trivial
             | (refine URun.id ?_; first
                 | refine URun.nil ?_
                 | refine URun.many tabs2 rfl rfl (by kernel_rfl) ?_ ?_
                 | refine URun.same tabs2 rfl rfl rfl ?_
                 | refine URun.same2 tabs2 rfl rfl rfl ?_
                 | refine URun.yes tabs2 rfl rfl (fun h => h (hcmp ‹_›)) rfl ?_
                 | refine URun.no tabs2 rfl rfl (fun h => h (hcmp ‹_›)) rfl ?_
                 | refine URun.split tabs2 rfl rfl rfl rfl (fun h => ?_) (fun h => ?_))
             | (refine TRun.id ?_; first
                 | refine TRun.nil ?_
                 | refine TRun.many rfl rfl (by kernel_rfl) ?_ ?_
                 | refine TRun.same rfl rfl rfl ?_
                 | refine TRun.same2 rfl rfl rfl ?_
                 | refine TRun.yes rfl rfl (fun h => h (hcmp ‹_›)) rfl ?_
                 | refine TRun.no rfl rfl (fun h => h (hcmp ‹_›)) rfl ?_
                 | refine TRun.split rfl rfl rfl rfl (fun h => ?_) (fun h => ?_))
             | (refine HoldsT.id ?_; first
                 | refine HoldsT.seq ?_
                 | refine HoldsT.regionU ?_
                 | refine HoldsT.drawn tabs2 ?_
                 | refine HoldsT.yes rfl ?_
                 | refine HoldsT.no rfl ?_
                 | refine HoldsT.cond rfl (fun h => ?_) (fun h => ?_)
                 | refine HoldsT.block ?_
                 | refine HoldsT.ret ?_
                 | refine HoldsT.skip ?_
                 | refine HoldsT.exit ?_)
             | (refine okTr_intro ?_; kernel_rfl)
             | exact absurd rfl h
             | refine allProp_C ?_ ?_
             | refine And.intro ?_ ?_
             | omega
             | (show _ < List.length _; omega)
             | exact rowlen_intro rfl
             | exact lenEq_intro rfl
             | exact Nat.le_of_ble_eq_true rfl
             | (simp only [AV.rowlenD, AV.rowlen, AV.ncells, mulSz, toN, Option.map_some, Option.map_none, cutL, List.length_take, List.length_drop, List.length_append, List.length_cons, List.length_nil, List.length_set, Option.some.injEq, Int.reduceToNat] <;> omega))
           all_goals first
             | (refine ⟨x ++ [32], ⟨by simp only [List.length_append, List.length_cons, List.length_nil]; omega, ?_⟩, ?_⟩
                · rw [wide_step ‹_›]; exact hx
                · refine WeakT.of ?_ ?_ (by kernel_rfl)
                  · repeat' (first | exact TTle.junk _ _ | exact TTle.same _ | refine TTle.node ?_ ?_ | refine TTle.leaf ?_ | exact AVle.junk _ | exact AVle.rfl' rfl | exact AVle.nilS | exact AVle.nilB)
                  · repeat' (first | exact OOle.none _ _ | exact OOle.same _ | refine OOle.node ?_ ?_ | exact OOle.leaf _ | exact OOle.gone _))
             | (refine ⟨i + 1, ⟨by omega, by omega, by omega⟩, ?_⟩
                refine WeakT.of ?_ ?_ (by kernel_rfl)
                · repeat' (first | exact TTle.junk _ _ | exact TTle.same _ | refine TTle.node ?_ ?_ | refine TTle.leaf ?_ | exact AVle.junk _ | exact AVle.rfl' rfl | exact AVle.nilS | exact AVle.nilB)
                · repeat' (first | exact OOle.none _ _ | exact OOle.same _ | refine OOle.node ?_ ?_ | exact OOle.leaf _ | exact OOle.gone _)))

set_option maxRecDepth 10000 in
set_option maxHeartbeats 8000000 in
theorem p20w_falsen (ls bs old new now : List (List UInt8)) (a d ql qc at' : Int) (he : ¬ ls.getD (plL ls a).toNat [] = []) (hL : ls.length ≤ 40) (hB : ∀ n : Nat, (ls.getD n []).length ≤ 1200) (h0 : 0 < ls.length) (hb0 : 0 < bs.length) (hb8 : bs.length ≤ 8) (hbB : ∀ n : Nat, (bs.getD n []).length ≤ 1200) (hpl : placeL ls (plL ls a) (plC ls a d) = true)
    (hnl : (now.length : Int) = max (ls.length : Int) (plL ls a + bs.length)) (hrow : ∀ i : Nat, i < bs.length → now.getD ((plL ls a).toNat + i) [] = rowB ls bs (plL ls a) (plC ls a d + 1) i)
    (k27 : Pure Try.prog 27 [.slS ls] (.bool true)) (k27m : Pure Try.prog 27 [.slS bs] (.bool true)) (k28 : Pure Try.prog 28 [.slS ls, .int .u16 a, .int .u16 d] (.agg [.int .i64 (plL ls a), .int .i64 (plC ls a d)]))
    (k54 : Pure Try.prog 54 [.slS ls, .agg [.int .i64 (plL ls a), .int .i64 (plC ls a d)], .agg [.int .i64 2, .slS bs], .bool false, .int .i64 1] (.tup [.agg [.int .i64 at', .slS old, .slS new], .agg [.int .i64 ql, .int .i64 qc], .bool true]))
    (k41 : Pure Try.prog 41 [.slS ls, .slG 3 [.int .i64 at', .slS old, .slS new]] (.tup [.slS now, .bool true]))
    (k49 : Pure Try.prog 49 [.slS now, .agg [.int .i64 (plL ls a), .int .i64 (plC ls a d + 1)], .bool false] (.agg [.int .i64 ql, .int .i64 qc])) :
    Pure Try.prog 20 [.slS ls, .slS bs, .int .u16 a, .int .u16 d, .bool false] (.bool true) := by
  obtain ⟨q1, q2, q3, q4⟩ := of_decide_eq_true hpl
  have hbl := hB (plL ls a).toNat
  have hmx : ¬ (now.length : Int) ≠ max (ls.length : Int) (plL ls a + bs.length) := fun h => h hnl
  refine Pure.ofT tab2_ok Try.func20 rfl rfl [.tmp 10] rfl (by decide) rfl ⟨143, 8, (.node (.node (.node (.node (.node (.node (.node (.node (.leaf (.slS ls)) (J 0)) (J 1)) (J 2)) (J 3)) (J 4)) (.node (.node (.node (.node (.node (.leaf (.bool false)) (J 0)) (J 1)) (J 2)) (J 3)) (J 4))) (.node (.node (.node (.node (.node (.node (.leaf (.int .u16 a)) (J 0)) (J 1)) (J 2)) (J 3)) (J 4)) (J 5))) (.node (.node (.node (.node (.node (.node (.node (.leaf (.slS bs)) (J 0)) (J 1)) (J 2)) (J 3)) (J 4)) (J 5)) (.node (.node (.node (.node (.node (.node (.leaf (.int .u16 d)) (J 0)) (J 1)) (J 2)) (J 3)) (J 4)) (J 5)))), (OO 8)⟩ (by kernel_rfl) (by kernel_rfl) ?_
  repeat' (first
    | refine allProp_T ?_
    | exact trivial
    | (refine URun.id ?_; first
        | refine URun.nil ?_
        | refine URun.many tabs2 rfl rfl (by kernel_rfl) ?_ ?_
        | (refine URun.toCall 52 rfl ?_; first
          | refine URun.call tabs2 rfl rfl rfl rfl p52 rfl rfl ?_ rfl ?_)
        | (refine URun.toCall 27 rfl ?_; first
          | refine URun.call tabs2 rfl rfl rfl rfl k27 rfl rfl ?_ rfl ?_
          | refine URun.call tabs2 rfl rfl rfl rfl k27m rfl rfl ?_ rfl ?_)
        | (refine URun.toCall 28 rfl ?_; first
          | refine URun.call tabs2 rfl rfl rfl rfl k28 rfl rfl ?_ rfl ?_)
        | (refine URun.toCall 54 rfl ?_; first
          | refine URun.call tabs2 rfl rfl rfl rfl k54 rfl rfl ?_ rfl ?_)
        | (refine URun.toCall 41 rfl ?_; first
          | refine URun.call tabs2 rfl rfl rfl rfl k41 rfl rfl ?_ rfl ?_)
        | refine URun.same tabs2 rfl rfl rfl ?_
        | refine URun.same2 tabs2 rfl rfl rfl ?_
        | refine URun.yes tabs2 rfl rfl rfl rfl ?_
        | refine URun.no tabs2 rfl rfl rfl rfl ?_
        | refine URun.yes tabs2 rfl rfl hmx rfl ?_
        | refine URun.no tabs2 rfl rfl hmx rfl ?_
        | refine URun.yes tabs2 rfl rfl (by omega) rfl ?_
        | refine URun.no tabs2 rfl rfl (by omega) rfl ?_
        | refine URun.yes tabs2 rfl rfl he rfl ?_
        | refine URun.no tabs2 rfl rfl he rfl ?_
        | refine URun.split tabs2 rfl rfl rfl rfl (fun h => ?_) (fun h => ?_))
    | (refine TRun.id ?_; first
        | refine TRun.nil ?_
        | refine TRun.many rfl rfl (by kernel_rfl) ?_ ?_
        | (refine TRun.toCall 52 rfl ?_; first
          | refine TRun.call rfl rfl rfl rfl p52 rfl rfl ?_ rfl ?_)
        | (refine TRun.toCall 27 rfl ?_; first
          | refine TRun.call rfl rfl rfl rfl k27 rfl rfl ?_ rfl ?_
          | refine TRun.call rfl rfl rfl rfl k27m rfl rfl ?_ rfl ?_)
        | (refine TRun.toCall 28 rfl ?_; first
          | refine TRun.call rfl rfl rfl rfl k28 rfl rfl ?_ rfl ?_)
        | (refine TRun.toCall 54 rfl ?_; first
          | refine TRun.call rfl rfl rfl rfl k54 rfl rfl ?_ rfl ?_)
        | (refine TRun.toCall 41 rfl ?_; first
          | refine TRun.call rfl rfl rfl rfl k41 rfl rfl ?_ rfl ?_)
        | refine TRun.same rfl rfl rfl ?_
        | refine TRun.same2 rfl rfl rfl ?_
        | refine TRun.yes rfl rfl rfl rfl ?_
        | refine TRun.no rfl rfl rfl rfl ?_
        | refine TRun.yes rfl rfl hmx rfl ?_
        | refine TRun.no rfl rfl hmx rfl ?_
        | refine TRun.yes rfl rfl (by omega) rfl ?_
        | refine TRun.no rfl rfl (by omega) rfl ?_
        | refine TRun.yes rfl rfl he rfl ?_
        | refine TRun.no rfl rfl he rfl ?_
        | refine TRun.split rfl rfl rfl rfl (fun h => ?_) (fun h => ?_))
    | (refine HoldsT.id ?_; first
        | refine HoldsT.seq ?_
        | refine HoldsT.regionU ?_
        | refine HoldsT.drawn tabs2 ?_
        | refine HoldsT.yes rfl ?_
        | refine HoldsT.no rfl ?_
        | refine HoldsT.cond rfl (fun h => ?_) (fun h => ?_)
        | refine HoldsT.block ?_
        | refine HoldsT.ret ?_
        | refine HoldsT.skip ?_
        | refine HoldsT.exit ?_)
    | (refine okTr_intro ?_; kernel_rfl)
    | exact absurd rfl h
    | exact rowGk rfl rfl rfl
    | refine allProp_C ?_ ?_
    | refine And.intro ?_ ?_
    | omega
    | (show _ < List.length _; omega)
    | exact rowlen_intro rfl
    | exact lenEq_intro rfl
    | exact Nat.le_of_ble_eq_true rfl
    | (simp only [AV.rowlenD, AV.rowlen, AV.ncells, mulSz, toN, Option.map_some, Option.map_none, cutL, List.length_take, List.length_drop, List.length_append, List.length_cons, List.length_nil, List.length_set, Option.some.injEq, Int.reduceToNat] <;> omega))
  refine HoldsT.loop (fun i : Int => sh20o ls bs now (plL ls a) (plC ls a d) ql qc (plC ls a d + 1) i) (fun i => (bs.length - i).toNat) (fun i => 0 ≤ i ∧ i ≤ bs.length) 0 ?_ ?_ (fun _ => by kernel_rfl) ?_
  · refine WeakT.of ?_ ?_ (by kernel_rfl)
    · repeat' (first | exact TTle.junk _ _ | exact TTle.same _ | refine TTle.node ?_ ?_ | refine TTle.leaf ?_ | exact AVle.junk _ | exact AVle.rfl' rfl | exact AVle.nilS | exact AVle.nilB)
    · repeat' (first | exact OOle.none _ _ | exact OOle.same _ | refine OOle.node ?_ ?_ | exact OOle.leaf _ | exact OOle.gone _)
  · exact ⟨by simp, by simp⟩
  · intro i hi
    obtain ⟨g1, g2⟩ := hi
    have hli := hB (plL ls a + i).toNat
    have hbi := hbB i.toNat
    have hw := wideL_len (ls.getD (plL ls a + i).toNat []) (plC ls a d + 1)
    have hout : ¬ plL ls a + i < ls.length → ls.getD (plL ls a + i).toNat [] = [] := fun h => by rw [List.getD_eq_getElem?_getD, List.getElem?_eq_none (by omega)]; rfl
    show HoldsT Try.prog _ (sh20o ls bs now (plL ls a) (plC ls a d) ql qc (plC ls a d + 1) i) _
    repeat' (first
      | refine allProp_T ?_
      | exact trivial
      | (refine URun.id ?_; first
          | refine URun.nil ?_
          | refine URun.many tabs2 rfl rfl (by kernel_rfl) ?_ ?_
          | (refine URun.toCall 49 rfl ?_; first
            | refine URun.call tabs2 rfl rfl rfl rfl k49 rfl rfl ?_ rfl ?_)
          | refine URun.same tabs2 rfl rfl rfl ?_
          | refine URun.same2 tabs2 rfl rfl rfl ?_
          | refine URun.yes tabs2 rfl rfl rfl rfl ?_
          | refine URun.no tabs2 rfl rfl rfl rfl ?_
          | refine URun.split tabs2 rfl rfl rfl rfl (fun h => ?_) (fun h => ?_))
      | (refine TRun.id ?_; first
          | refine TRun.nil ?_
          | refine TRun.many rfl rfl (by kernel_rfl) ?_ ?_
          | (refine TRun.toCall 49 rfl ?_; first
            | refine TRun.call rfl rfl rfl rfl k49 rfl rfl ?_ rfl ?_)
          | refine TRun.same rfl rfl rfl ?_
          | refine TRun.same2 rfl rfl rfl ?_
          | refine TRun.yes rfl rfl rfl rfl ?_
          | refine TRun.no rfl rfl rfl rfl ?_
          | refine TRun.split rfl rfl rfl rfl (fun h => ?_) (fun h => ?_))
      | (refine HoldsT.id ?_; first
          | refine HoldsT.seq ?_
          | refine HoldsT.regionU ?_
          | refine HoldsT.drawn tabs2 ?_
          | refine HoldsT.yes rfl ?_
          | refine HoldsT.no rfl ?_
          | refine HoldsT.cond rfl (fun h => ?_) (fun h => ?_)
          | refine HoldsT.block ?_
          | refine HoldsT.ret ?_
          | refine HoldsT.skip ?_
          | refine HoldsT.exit ?_)
      | (refine okTr_intro ?_; kernel_rfl)
      | exact absurd rfl h
      | refine allProp_C ?_ ?_
      | refine And.intro ?_ ?_
      | omega
      | (show _ < List.length _; omega)
      | exact rowlen_intro rfl
      | exact lenEq_intro rfl
      | exact Nat.le_of_ble_eq_true rfl
      | (simp only [AV.rowlenD, AV.rowlen, AV.ncells, mulSz, toN, Option.map_some, Option.map_none, cutL, List.length_take, List.length_drop, List.length_append, List.length_cons, List.length_nil, List.length_set, Option.some.injEq, Int.reduceToNat] <;> omega))
    all_goals first
      | exact FinC.te (y := .bool true) rfl rfl trivial rfl
      | (refine HoldsT.loop (fun x : List UInt8 => sh20i ls bs now (plL ls a) (plC ls a d) ql qc (plC ls a d + 1) i x) (fun x => ((plC ls a d + 1) - x.length).toNat) (fun x => wideL x (plC ls a d + 1) = wideL (ls.getD (plL ls a + i).toNat []) (plC ls a d + 1)) (ls.getD (plL ls a + i).toNat []) ?_ ?_ (fun _ => by kernel_rfl) ?_
         · refine WeakT.of ?_ ?_ (by kernel_rfl)
           · repeat' (first | exact TTle.junk _ _ | exact TTle.same _ | refine TTle.node ?_ ?_ | refine TTle.leaf ?_ | exact AVle.junk _ | exact AVle.rfl' rfl | exact AVle.nilS | exact AVle.nilB | exact AVle.rfl' (congrArg AV.str (hout ‹_›).symm))
           · repeat' (first | exact OOle.none _ _ | exact OOle.same _ | refine OOle.node ?_ ?_ | exact OOle.leaf _ | exact OOle.gone _)
         · rfl
         · intro x hx
           have hxl := wideL_len x (plC ls a d + 1)
           rw [hx] at hxl
           have hcmp : ¬ (x.length : Int) < (plC ls a d + 1) → now.getD (plL ls a + i).toNat [] = cutL x none (some ((plC ls a d + 1)).toNat) ++ bs.getD i.toNat [] ++ cutL x (some ((plC ls a d + 1)).toNat) none := fun h => by
             rw [show (plL ls a + i).toNat = (plL ls a).toNat + i.toNat by omega, hrow i.toNat (by omega)]
             unfold rowB
             rw [show (plL ls a).toNat + i.toNat = (plL ls a + i).toNat by omega, ← hx, wide_full (by omega)]; rfl
           show HoldsT Try.prog _ (sh20i ls bs now (plL ls a) (plC ls a d) ql qc (plC ls a d + 1) i x) _
           repeat' (first
             | refine allProp_T ?_
             | exact trivial
             | (refine URun.id ?_; first
                 | refine URun.nil ?_
                 | refine URun.many tabs2 rfl rfl (by kernel_rfl) ?_ ?_
                 | refine URun.same tabs2 rfl rfl rfl ?_
                 | refine URun.same2 tabs2 rfl rfl rfl ?_
                 | refine URun.yes tabs2 rfl rfl (fun h => h (hcmp ‹_›)) rfl ?_
                 | refine URun.no tabs2 rfl rfl (fun h => h (hcmp ‹_›)) rfl ?_
                 | refine URun.split tabs2 rfl rfl rfl rfl (fun h => ?_) (fun h => ?_))
             | (refine TRun.id ?_; first
                 | refine TRun.nil ?_
                 | refine TRun.many rfl rfl (by kernel_rfl) ?_ ?_
                 | refine TRun.same rfl rfl rfl ?_
                 | refine TRun.same2 rfl rfl rfl ?_
                 | refine TRun.yes rfl rfl (fun h => h (hcmp ‹_›)) rfl ?_
                 | refine TRun.no rfl rfl (fun h => h (hcmp ‹_›)) rfl ?_
                 | refine TRun.split rfl rfl rfl rfl (fun h => ?_) (fun h => ?_))
             | (refine HoldsT.id ?_; first
                 | refine HoldsT.seq ?_
                 | refine HoldsT.regionU ?_
                 | refine HoldsT.drawn tabs2 ?_
                 | refine HoldsT.yes rfl ?_
                 | refine HoldsT.no rfl ?_
                 | refine HoldsT.cond rfl (fun h => ?_) (fun h => ?_)
                 | refine HoldsT.block ?_
                 | refine HoldsT.ret ?_
                 | refine HoldsT.skip ?_
                 | refine HoldsT.exit ?_)
             | (refine okTr_intro ?_; kernel_rfl)
             | exact absurd rfl h
             | refine allProp_C ?_ ?_
             | refine And.intro ?_ ?_
             | omega
             | (show _ < List.length _; omega)
             | exact rowlen_intro rfl
             | exact lenEq_intro rfl
             | exact Nat.le_of_ble_eq_true rfl
             | (simp only [AV.rowlenD, AV.rowlen, AV.ncells, mulSz, toN, Option.map_some, Option.map_none, cutL, List.length_take, List.length_drop, List.length_append, List.length_cons, List.length_nil, List.length_set, Option.some.injEq, Int.reduceToNat] <;> omega))
           all_goals first
             | (refine ⟨x ++ [32], ⟨by simp only [List.length_append, List.length_cons, List.length_nil]; omega, ?_⟩, ?_⟩
                · rw [wide_step ‹_›]; exact hx
                · refine WeakT.of ?_ ?_ (by kernel_rfl)
                  · repeat' (first | exact TTle.junk _ _ | exact TTle.same _ | refine TTle.node ?_ ?_ | refine TTle.leaf ?_ | exact AVle.junk _ | exact AVle.rfl' rfl | exact AVle.nilS | exact AVle.nilB)
                  · repeat' (first | exact OOle.none _ _ | exact OOle.same _ | refine OOle.node ?_ ?_ | exact OOle.leaf _ | exact OOle.gone _))
             | (refine ⟨i + 1, ⟨by omega, by omega, by omega⟩, ?_⟩
                refine WeakT.of ?_ ?_ (by kernel_rfl)
                · repeat' (first | exact TTle.junk _ _ | exact TTle.same _ | refine TTle.node ?_ ?_ | refine TTle.leaf ?_ | exact AVle.junk _ | exact AVle.rfl' rfl | exact AVle.nilS | exact AVle.nilB)
                · repeat' (first | exact OOle.none _ _ | exact OOle.same _ | refine OOle.node ?_ ?_ | exact OOle.leaf _ | exact OOle.gone _)))

set_option maxRecDepth 10000 in
set_option maxHeartbeats 8000000 in
theorem p20w_falsee (ls bs old new now : List (List UInt8)) (a d ql qc at' : Int) (he : ls.getD (plL ls a).toNat [] = []) (hL : ls.length ≤ 40) (hB : ∀ n : Nat, (ls.getD n []).length ≤ 1200) (h0 : 0 < ls.length) (hb0 : 0 < bs.length) (hb8 : bs.length ≤ 8) (hbB : ∀ n : Nat, (bs.getD n []).length ≤ 1200) (hpl : placeL ls (plL ls a) (plC ls a d) = true)
    (hnl : (now.length : Int) = max (ls.length : Int) (plL ls a + bs.length)) (hrow : ∀ i : Nat, i < bs.length → now.getD ((plL ls a).toNat + i) [] = rowB ls bs (plL ls a) (plC ls a d) i)
    (k27 : Pure Try.prog 27 [.slS ls] (.bool true)) (k27m : Pure Try.prog 27 [.slS bs] (.bool true)) (k28 : Pure Try.prog 28 [.slS ls, .int .u16 a, .int .u16 d] (.agg [.int .i64 (plL ls a), .int .i64 (plC ls a d)]))
    (k54 : Pure Try.prog 54 [.slS ls, .agg [.int .i64 (plL ls a), .int .i64 (plC ls a d)], .agg [.int .i64 2, .slS bs], .bool false, .int .i64 1] (.tup [.agg [.int .i64 at', .slS old, .slS new], .agg [.int .i64 ql, .int .i64 qc], .bool true]))
    (k41 : Pure Try.prog 41 [.slS ls, .slG 3 [.int .i64 at', .slS old, .slS new]] (.tup [.slS now, .bool true]))
    (k49 : Pure Try.prog 49 [.slS now, .agg [.int .i64 (plL ls a), .int .i64 (plC ls a d)], .bool false] (.agg [.int .i64 ql, .int .i64 qc])) :
    Pure Try.prog 20 [.slS ls, .slS bs, .int .u16 a, .int .u16 d, .bool false] (.bool true) := by
  obtain ⟨q1, q2, q3, q4⟩ := of_decide_eq_true hpl
  have hbl := hB (plL ls a).toNat
  have hmx : ¬ (now.length : Int) ≠ max (ls.length : Int) (plL ls a + bs.length) := fun h => h hnl
  refine Pure.ofT tab2_ok Try.func20 rfl rfl [.tmp 10] rfl (by decide) rfl ⟨143, 8, (.node (.node (.node (.node (.node (.node (.node (.node (.leaf (.slS ls)) (J 0)) (J 1)) (J 2)) (J 3)) (J 4)) (.node (.node (.node (.node (.node (.leaf (.bool false)) (J 0)) (J 1)) (J 2)) (J 3)) (J 4))) (.node (.node (.node (.node (.node (.node (.leaf (.int .u16 a)) (J 0)) (J 1)) (J 2)) (J 3)) (J 4)) (J 5))) (.node (.node (.node (.node (.node (.node (.node (.leaf (.slS bs)) (J 0)) (J 1)) (J 2)) (J 3)) (J 4)) (J 5)) (.node (.node (.node (.node (.node (.node (.leaf (.int .u16 d)) (J 0)) (J 1)) (J 2)) (J 3)) (J 4)) (J 5)))), (OO 8)⟩ (by kernel_rfl) (by kernel_rfl) ?_
  repeat' (first
    | refine allProp_T ?_
    | exact trivial
    | (refine URun.id ?_; first
        | refine URun.nil ?_
        | refine URun.many tabs2 rfl rfl (by kernel_rfl) ?_ ?_
        | (refine URun.toCall 52 rfl ?_; first
          | refine URun.call tabs2 rfl rfl rfl rfl p52 rfl rfl ?_ rfl ?_)
        | (refine URun.toCall 27 rfl ?_; first
          | refine URun.call tabs2 rfl rfl rfl rfl k27 rfl rfl ?_ rfl ?_
          | refine URun.call tabs2 rfl rfl rfl rfl k27m rfl rfl ?_ rfl ?_)
        | (refine URun.toCall 28 rfl ?_; first
          | refine URun.call tabs2 rfl rfl rfl rfl k28 rfl rfl ?_ rfl ?_)
        | (refine URun.toCall 54 rfl ?_; first
          | refine URun.call tabs2 rfl rfl rfl rfl k54 rfl rfl ?_ rfl ?_)
        | (refine URun.toCall 41 rfl ?_; first
          | refine URun.call tabs2 rfl rfl rfl rfl k41 rfl rfl ?_ rfl ?_)
        | refine URun.same tabs2 rfl rfl rfl ?_
        | refine URun.same2 tabs2 rfl rfl rfl ?_
        | refine URun.yes tabs2 rfl rfl rfl rfl ?_
        | refine URun.no tabs2 rfl rfl rfl rfl ?_
        | refine URun.yes tabs2 rfl rfl hmx rfl ?_
        | refine URun.no tabs2 rfl rfl hmx rfl ?_
        | refine URun.yes tabs2 rfl rfl (by omega) rfl ?_
        | refine URun.no tabs2 rfl rfl (by omega) rfl ?_
        | refine URun.yes tabs2 rfl rfl (fun h => h he) rfl ?_
        | refine URun.no tabs2 rfl rfl (fun h => h he) rfl ?_
        | refine URun.split tabs2 rfl rfl rfl rfl (fun h => ?_) (fun h => ?_))
    | (refine TRun.id ?_; first
        | refine TRun.nil ?_
        | refine TRun.many rfl rfl (by kernel_rfl) ?_ ?_
        | (refine TRun.toCall 52 rfl ?_; first
          | refine TRun.call rfl rfl rfl rfl p52 rfl rfl ?_ rfl ?_)
        | (refine TRun.toCall 27 rfl ?_; first
          | refine TRun.call rfl rfl rfl rfl k27 rfl rfl ?_ rfl ?_
          | refine TRun.call rfl rfl rfl rfl k27m rfl rfl ?_ rfl ?_)
        | (refine TRun.toCall 28 rfl ?_; first
          | refine TRun.call rfl rfl rfl rfl k28 rfl rfl ?_ rfl ?_)
        | (refine TRun.toCall 54 rfl ?_; first
          | refine TRun.call rfl rfl rfl rfl k54 rfl rfl ?_ rfl ?_)
        | (refine TRun.toCall 41 rfl ?_; first
          | refine TRun.call rfl rfl rfl rfl k41 rfl rfl ?_ rfl ?_)
        | refine TRun.same rfl rfl rfl ?_
        | refine TRun.same2 rfl rfl rfl ?_
        | refine TRun.yes rfl rfl rfl rfl ?_
        | refine TRun.no rfl rfl rfl rfl ?_
        | refine TRun.yes rfl rfl hmx rfl ?_
        | refine TRun.no rfl rfl hmx rfl ?_
        | refine TRun.yes rfl rfl (by omega) rfl ?_
        | refine TRun.no rfl rfl (by omega) rfl ?_
        | refine TRun.yes rfl rfl (fun h => h he) rfl ?_
        | refine TRun.no rfl rfl (fun h => h he) rfl ?_
        | refine TRun.split rfl rfl rfl rfl (fun h => ?_) (fun h => ?_))
    | (refine HoldsT.id ?_; first
        | refine HoldsT.seq ?_
        | refine HoldsT.regionU ?_
        | refine HoldsT.drawn tabs2 ?_
        | refine HoldsT.yes rfl ?_
        | refine HoldsT.no rfl ?_
        | refine HoldsT.cond rfl (fun h => ?_) (fun h => ?_)
        | refine HoldsT.block ?_
        | refine HoldsT.ret ?_
        | refine HoldsT.skip ?_
        | refine HoldsT.exit ?_)
    | (refine okTr_intro ?_; kernel_rfl)
    | exact absurd rfl h
    | exact rowGk rfl rfl rfl
    | refine allProp_C ?_ ?_
    | refine And.intro ?_ ?_
    | omega
    | (show _ < List.length _; omega)
    | exact rowlen_intro rfl
    | exact lenEq_intro rfl
    | exact Nat.le_of_ble_eq_true rfl
    | (simp only [AV.rowlenD, AV.rowlen, AV.ncells, mulSz, toN, Option.map_some, Option.map_none, cutL, List.length_take, List.length_drop, List.length_append, List.length_cons, List.length_nil, List.length_set, Option.some.injEq, Int.reduceToNat] <;> omega))
  refine HoldsT.loop (fun i : Int => sh20o ls bs now (plL ls a) (plC ls a d) ql qc (plC ls a d) i) (fun i => (bs.length - i).toNat) (fun i => 0 ≤ i ∧ i ≤ bs.length) 0 ?_ ?_ (fun _ => by kernel_rfl) ?_
  · refine WeakT.of ?_ ?_ (by kernel_rfl)
    · repeat' (first | exact TTle.junk _ _ | exact TTle.same _ | refine TTle.node ?_ ?_ | refine TTle.leaf ?_ | exact AVle.junk _ | exact AVle.rfl' rfl | exact AVle.nilS | exact AVle.nilB)
    · repeat' (first | exact OOle.none _ _ | exact OOle.same _ | refine OOle.node ?_ ?_ | exact OOle.leaf _ | exact OOle.gone _)
  · exact ⟨by simp, by simp⟩
  · intro i hi
    obtain ⟨g1, g2⟩ := hi
    have hli := hB (plL ls a + i).toNat
    have hbi := hbB i.toNat
    have hw := wideL_len (ls.getD (plL ls a + i).toNat []) (plC ls a d)
    have hout : ¬ plL ls a + i < ls.length → ls.getD (plL ls a + i).toNat [] = [] := fun h => by rw [List.getD_eq_getElem?_getD, List.getElem?_eq_none (by omega)]; rfl
    show HoldsT Try.prog _ (sh20o ls bs now (plL ls a) (plC ls a d) ql qc (plC ls a d) i) _
    repeat' (first
      | refine allProp_T ?_
      | exact trivial
      | (refine URun.id ?_; first
          | refine URun.nil ?_
          | refine URun.many tabs2 rfl rfl (by kernel_rfl) ?_ ?_
          | (refine URun.toCall 49 rfl ?_; first
            | refine URun.call tabs2 rfl rfl rfl rfl k49 rfl rfl ?_ rfl ?_)
          | refine URun.same tabs2 rfl rfl rfl ?_
          | refine URun.same2 tabs2 rfl rfl rfl ?_
          | refine URun.yes tabs2 rfl rfl rfl rfl ?_
          | refine URun.no tabs2 rfl rfl rfl rfl ?_
          | refine URun.split tabs2 rfl rfl rfl rfl (fun h => ?_) (fun h => ?_))
      | (refine TRun.id ?_; first
          | refine TRun.nil ?_
          | refine TRun.many rfl rfl (by kernel_rfl) ?_ ?_
          | (refine TRun.toCall 49 rfl ?_; first
            | refine TRun.call rfl rfl rfl rfl k49 rfl rfl ?_ rfl ?_)
          | refine TRun.same rfl rfl rfl ?_
          | refine TRun.same2 rfl rfl rfl ?_
          | refine TRun.yes rfl rfl rfl rfl ?_
          | refine TRun.no rfl rfl rfl rfl ?_
          | refine TRun.split rfl rfl rfl rfl (fun h => ?_) (fun h => ?_))
      | (refine HoldsT.id ?_; first
          | refine HoldsT.seq ?_
          | refine HoldsT.regionU ?_
          | refine HoldsT.drawn tabs2 ?_
          | refine HoldsT.yes rfl ?_
          | refine HoldsT.no rfl ?_
          | refine HoldsT.cond rfl (fun h => ?_) (fun h => ?_)
          | refine HoldsT.block ?_
          | refine HoldsT.ret ?_
          | refine HoldsT.skip ?_
          | refine HoldsT.exit ?_)
      | (refine okTr_intro ?_; kernel_rfl)
      | exact absurd rfl h
      | refine allProp_C ?_ ?_
      | refine And.intro ?_ ?_
      | omega
      | (show _ < List.length _; omega)
      | exact rowlen_intro rfl
      | exact lenEq_intro rfl
      | exact Nat.le_of_ble_eq_true rfl
      | (simp only [AV.rowlenD, AV.rowlen, AV.ncells, mulSz, toN, Option.map_some, Option.map_none, cutL, List.length_take, List.length_drop, List.length_append, List.length_cons, List.length_nil, List.length_set, Option.some.injEq, Int.reduceToNat] <;> omega))
    all_goals first
      | exact FinC.te (y := .bool true) rfl rfl trivial rfl
      | (refine HoldsT.loop (fun x : List UInt8 => sh20i ls bs now (plL ls a) (plC ls a d) ql qc (plC ls a d) i x) (fun x => ((plC ls a d) - x.length).toNat) (fun x => wideL x (plC ls a d) = wideL (ls.getD (plL ls a + i).toNat []) (plC ls a d)) (ls.getD (plL ls a + i).toNat []) ?_ ?_ (fun _ => by kernel_rfl) ?_
         · refine WeakT.of ?_ ?_ (by kernel_rfl)
           · repeat' (first | exact TTle.junk _ _ | exact TTle.same _ | refine TTle.node ?_ ?_ | refine TTle.leaf ?_ | exact AVle.junk _ | exact AVle.rfl' rfl | exact AVle.nilS | exact AVle.nilB | exact AVle.rfl' (congrArg AV.str (hout ‹_›).symm))
           · repeat' (first | exact OOle.none _ _ | exact OOle.same _ | refine OOle.node ?_ ?_ | exact OOle.leaf _ | exact OOle.gone _)
         · rfl
         · intro x hx
           have hxl := wideL_len x (plC ls a d)
           rw [hx] at hxl
           have hcmp : ¬ (x.length : Int) < (plC ls a d) → now.getD (plL ls a + i).toNat [] = cutL x none (some ((plC ls a d)).toNat) ++ bs.getD i.toNat [] ++ cutL x (some ((plC ls a d)).toNat) none := fun h => by
             rw [show (plL ls a + i).toNat = (plL ls a).toNat + i.toNat by omega, hrow i.toNat (by omega)]
             unfold rowB
             rw [show (plL ls a).toNat + i.toNat = (plL ls a + i).toNat by omega, ← hx, wide_full (by omega)]; rfl
           show HoldsT Try.prog _ (sh20i ls bs now (plL ls a) (plC ls a d) ql qc (plC ls a d) i x) _
           repeat' (first
             | refine allProp_T ?_
             | exact trivial
             | (refine URun.id ?_; first
                 | refine URun.nil ?_
                 | refine URun.many tabs2 rfl rfl (by kernel_rfl) ?_ ?_
                 | refine URun.same tabs2 rfl rfl rfl ?_
                 | refine URun.same2 tabs2 rfl rfl rfl ?_
                 | refine URun.yes tabs2 rfl rfl (fun h => h (hcmp ‹_›)) rfl ?_
                 | refine URun.no tabs2 rfl rfl (fun h => h (hcmp ‹_›)) rfl ?_
                 | refine URun.split tabs2 rfl rfl rfl rfl (fun h => ?_) (fun h => ?_))
             | (refine TRun.id ?_; first
                 | refine TRun.nil ?_
                 | refine TRun.many rfl rfl (by kernel_rfl) ?_ ?_
                 | refine TRun.same rfl rfl rfl ?_
                 | refine TRun.same2 rfl rfl rfl ?_
                 | refine TRun.yes rfl rfl (fun h => h (hcmp ‹_›)) rfl ?_
                 | refine TRun.no rfl rfl (fun h => h (hcmp ‹_›)) rfl ?_
                 | refine TRun.split rfl rfl rfl rfl (fun h => ?_) (fun h => ?_))
             | (refine HoldsT.id ?_; first
                 | refine HoldsT.seq ?_
                 | refine HoldsT.regionU ?_
                 | refine HoldsT.drawn tabs2 ?_
                 | refine HoldsT.yes rfl ?_
                 | refine HoldsT.no rfl ?_
                 | refine HoldsT.cond rfl (fun h => ?_) (fun h => ?_)
                 | refine HoldsT.block ?_
                 | refine HoldsT.ret ?_
                 | refine HoldsT.skip ?_
                 | refine HoldsT.exit ?_)
             | (refine okTr_intro ?_; kernel_rfl)
             | exact absurd rfl h
             | refine allProp_C ?_ ?_
             | refine And.intro ?_ ?_
             | omega
             | (show _ < List.length _; omega)
             | exact rowlen_intro rfl
             | exact lenEq_intro rfl
             | exact Nat.le_of_ble_eq_true rfl
             | (simp only [AV.rowlenD, AV.rowlen, AV.ncells, mulSz, toN, Option.map_some, Option.map_none, cutL, List.length_take, List.length_drop, List.length_append, List.length_cons, List.length_nil, List.length_set, Option.some.injEq, Int.reduceToNat] <;> omega))
           all_goals first
             | (refine ⟨x ++ [32], ⟨by simp only [List.length_append, List.length_cons, List.length_nil]; omega, ?_⟩, ?_⟩
                · rw [wide_step ‹_›]; exact hx
                · refine WeakT.of ?_ ?_ (by kernel_rfl)
                  · repeat' (first | exact TTle.junk _ _ | exact TTle.same _ | refine TTle.node ?_ ?_ | refine TTle.leaf ?_ | exact AVle.junk _ | exact AVle.rfl' rfl | exact AVle.nilS | exact AVle.nilB)
                  · repeat' (first | exact OOle.none _ _ | exact OOle.same _ | refine OOle.node ?_ ?_ | exact OOle.leaf _ | exact OOle.gone _))
             | (refine ⟨i + 1, ⟨by omega, by omega, by omega⟩, ?_⟩
                refine WeakT.of ?_ ?_ (by kernel_rfl)
                · repeat' (first | exact TTle.junk _ _ | exact TTle.same _ | refine TTle.node ?_ ?_ | refine TTle.leaf ?_ | exact AVle.junk _ | exact AVle.rfl' rfl | exact AVle.nilS | exact AVle.nilB)
                · repeat' (first | exact OOle.none _ _ | exact OOle.same _ | refine OOle.node ?_ ?_ | exact OOle.leaf _ | exact OOle.gone _)))

set_option maxRecDepth 10000 in
set_option maxHeartbeats 8000000 in
theorem p20_true (ls bs : List (List UInt8)) (a d : Int) (hL : ls.length ≤ 140737488355328) (hB : ∀ n : Nat, (ls.getD n []).length ≤ 140737488355328) (hM : bs.length ≤ 140737488355328) (hMB : ∀ n : Nat, (bs.getD n []).length ≤ 140737488355328) (ha : inK .u16 a) (hd : inK .u16 d)
    (hg : (decide (0 < (ls.length : Int)) && lightL ls) = true ∧ (decide (0 < (bs.length : Int)) && lightL bs) = true ∧ bs.length ≤ 8) : Pure Try.prog 20 [.slS ls, .slS bs, .int .u16 a, .int .u16 d, .bool true] (.bool true) := by
  obtain ⟨hg1, hg2, hg3⟩ := hg
  have k27 := p27 ls hL hB
  have k27m := p27 bs hM hMB
  rw [hg1] at k27
  rw [hg2] at k27m
  obtain ⟨h0, hl, hr⟩ := light_len hg1
  obtain ⟨m0, ml, mr⟩ := light_len hg2
  have ha0 : 0 ≤ a ∧ a ≤ 65535 := ha
  have hd0 : 0 ≤ d ∧ d ≤ 65535 := hd
  have hms : sumL bs ≤ 1200 ∧ bs.all noLF = true := by
    simp only [lightL, Bool.and_eq_true, decide_eq_true_eq] at hg2
    exact ⟨hg2.2.1.2, hg2.2.2⟩
  have hpl := place_ok (a := a) (b := d) h0 ha0.1 hd0.1
  obtain ⟨q1, q2, q3, q4⟩ := of_decide_eq_true hpl
  have hbl := hr (plL ls a).toNat
  have k28 := p28 ls a d h0 ha0 hd0 (fun n => by have := hr n; omega)
  have hmay : mayL bs 1 = true := may_iff.2 ⟨⟨by omega, by omega, by omega, by unfold sizeL; omega⟩, hms.2⟩
  have k79 := p79b_true ls bs (plL ls a) (plC ls a d) (by omega) (fun n => by have := hr n; omega) hpl (by omega) (fun n => by have := mr n; omega) (by omega)
  have hcol : 0 ≤ (plC ls a d) ∧ (plC ls a d) ≤ 1201 := by (try split) <;> omega
  have hrow0 : ∀ i : Nat, i < bs.length → (rowsB ls bs (plL ls a) (plC ls a d) bs.length).getD i [] = rowB ls bs (plL ls a) (plC ls a d) i := fun i hi => by
    unfold rowsB
    rw [List.getD_eq_getElem?_getD, List.getElem?_map, List.getElem?_range hi]; rfl
  have hrB : ∀ n : Nat, ((rowsB ls bs (plL ls a) (plC ls a d) bs.length).getD n []).length ≤ 10000 := fun n => by
    by_cases hn : n < bs.length
    · rw [hrow0 n hn]
      have h1 := mr n
      have h2 := hr ((plL ls a).toNat + n)
      have h3 := wideL_len (ls.getD ((plL ls a).toNat + n) []) (plC ls a d)
      unfold rowB
      simp only [List.length_append, List.length_take, List.length_drop]
      omega
    · rw [List.getD_eq_getElem?_getD, List.getElem?_eq_none (by simp [rowsB]; omega)]; simp
  have hnl : (rowsB ls bs (plL ls a) (plC ls a d) bs.length).length = bs.length := by simp [rowsB]
  generalize hn9 : rowsB ls bs (plL ls a) (plC ls a d) bs.length = new at *
  obtain ⟨old, ho⟩ : ∃ x, x = midL ls (plL ls a) (min (plL ls a + bs.length) ls.length - plL ls a) := ⟨_, rfl⟩
  rw [← ho] at k79
  have hol : (old.length : Int) = min (plL ls a + bs.length) ls.length - plL ls a := by
    rw [ho]; simp only [midL, cutL, List.length_drop, List.length_take]; omega
  have hok : appOk ls (plL ls a) old new = true := decide_eq_true ⟨by omega, by omega, by omega, by rw [hol]; exact ho.symm, by omega⟩
  have hap : appL ls (plL ls a) old new = ls.take (plL ls a).toNat ++ (new ++ ls.drop (plL ls a + old.length).toNat) := by rw [appL, if_pos hok]; simp [cutL]
  obtain ⟨now, hnow⟩ : ∃ x, x = appL ls (plL ls a) old new := ⟨_, rfl⟩
  have hl1 : (ls.take (plL ls a).toNat).length = (plL ls a).toNat := by rw [List.length_take]; omega
  have hnl2 : (now.length : Int) = max (ls.length : Int) (plL ls a + bs.length) := by
    rw [hnow, hap]; simp only [List.length_append, List.length_take, List.length_drop]; omega
  have hnowB := (appL_small (ls := ls) (old := old) (new := new) (a := plL ls a) (b := 10000) (fun n => by have := hr n; omega) hrB).2
  rw [← hnow] at hnowB
  have hrow : ∀ i : Nat, i < bs.length → now.getD ((plL ls a).toNat + i) [] = rowB ls bs (plL ls a) (plC ls a d) i := fun i hi => by
    rw [← hrow0 i hi, hnow, hap, List.getD_eq_getElem?_getD, List.getElem?_append_right (by omega), hl1, List.getElem?_append_left (by omega), List.getD_eq_getElem?_getD]
    congr 2; omega
  have k54 := p54w ls bs (plL ls a) (plC ls a d) 2 1 true (by omega) (by omega) (by omega) hpl hmay (plL ls a) (plL ls a) (plC ls a d) old new (by omega) (by omega) (by rw [← hnow]; omega) (fun n => by rw [← hnow]; have := hnowB n; omega) (by rw [← hnow]; omega) hok k79
  rw [← hnow] at k54
  have k41 := p41 ls old new (plL ls a) (by omega) (by omega) (by omega)
  rw [hok, ← hnow] at k41
  have k49 := p49 now (plL ls a) (plC ls a d) false (by omega) (fun n => by have := hnowB n; omega) (by omega)
  exact p20w_true ls bs old new now a d _ _ _ hl hr (by omega) (by omega) hg3 mr hpl hnl2 hrow k27 k27m k28 k54 k41 k49

set_option maxRecDepth 10000 in
set_option maxHeartbeats 8000000 in
theorem p20_false (ls bs : List (List UInt8)) (a d : Int) (hL : ls.length ≤ 140737488355328) (hB : ∀ n : Nat, (ls.getD n []).length ≤ 140737488355328) (hM : bs.length ≤ 140737488355328) (hMB : ∀ n : Nat, (bs.getD n []).length ≤ 140737488355328) (ha : inK .u16 a) (hd : inK .u16 d)
    (hg : (decide (0 < (ls.length : Int)) && lightL ls) = true ∧ (decide (0 < (bs.length : Int)) && lightL bs) = true ∧ bs.length ≤ 8) : Pure Try.prog 20 [.slS ls, .slS bs, .int .u16 a, .int .u16 d, .bool false] (.bool true) := by
  obtain ⟨hg1, hg2, hg3⟩ := hg
  have k27 := p27 ls hL hB
  have k27m := p27 bs hM hMB
  rw [hg1] at k27
  rw [hg2] at k27m
  obtain ⟨h0, hl, hr⟩ := light_len hg1
  obtain ⟨m0, ml, mr⟩ := light_len hg2
  have ha0 : 0 ≤ a ∧ a ≤ 65535 := ha
  have hd0 : 0 ≤ d ∧ d ≤ 65535 := hd
  have hms : sumL bs ≤ 1200 ∧ bs.all noLF = true := by
    simp only [lightL, Bool.and_eq_true, decide_eq_true_eq] at hg2
    exact ⟨hg2.2.1.2, hg2.2.2⟩
  have hpl := place_ok (a := a) (b := d) h0 ha0.1 hd0.1
  obtain ⟨q1, q2, q3, q4⟩ := of_decide_eq_true hpl
  have hbl := hr (plL ls a).toNat
  have k28 := p28 ls a d h0 ha0 hd0 (fun n => by have := hr n; omega)
  have hmay : mayL bs 1 = true := may_iff.2 ⟨⟨by omega, by omega, by omega, by unfold sizeL; omega⟩, hms.2⟩
  have k79 := p79b_false ls bs (plL ls a) (plC ls a d) (by omega) (fun n => by have := hr n; omega) hpl (by omega) (fun n => by have := mr n; omega) (by omega)
  have hcol : 0 ≤ (if 0 < ((ls.getD (plL ls a).toNat []).length : Int) then plC ls a d + 1 else plC ls a d) ∧ (if 0 < ((ls.getD (plL ls a).toNat []).length : Int) then plC ls a d + 1 else plC ls a d) ≤ 1201 := by (try split) <;> omega
  have hrow0 : ∀ i : Nat, i < bs.length → (rowsB ls bs (plL ls a) (if 0 < ((ls.getD (plL ls a).toNat []).length : Int) then plC ls a d + 1 else plC ls a d) bs.length).getD i [] = rowB ls bs (plL ls a) (if 0 < ((ls.getD (plL ls a).toNat []).length : Int) then plC ls a d + 1 else plC ls a d) i := fun i hi => by
    unfold rowsB
    rw [List.getD_eq_getElem?_getD, List.getElem?_map, List.getElem?_range hi]; rfl
  have hrB : ∀ n : Nat, ((rowsB ls bs (plL ls a) (if 0 < ((ls.getD (plL ls a).toNat []).length : Int) then plC ls a d + 1 else plC ls a d) bs.length).getD n []).length ≤ 10000 := fun n => by
    by_cases hn : n < bs.length
    · rw [hrow0 n hn]
      have h1 := mr n
      have h2 := hr ((plL ls a).toNat + n)
      have h3 := wideL_len (ls.getD ((plL ls a).toNat + n) []) (if 0 < ((ls.getD (plL ls a).toNat []).length : Int) then plC ls a d + 1 else plC ls a d)
      unfold rowB
      simp only [List.length_append, List.length_take, List.length_drop]
      omega
    · rw [List.getD_eq_getElem?_getD, List.getElem?_eq_none (by simp [rowsB]; omega)]; simp
  have hnl : (rowsB ls bs (plL ls a) (if 0 < ((ls.getD (plL ls a).toNat []).length : Int) then plC ls a d + 1 else plC ls a d) bs.length).length = bs.length := by simp [rowsB]
  generalize hn9 : rowsB ls bs (plL ls a) (if 0 < ((ls.getD (plL ls a).toNat []).length : Int) then plC ls a d + 1 else plC ls a d) bs.length = new at *
  obtain ⟨old, ho⟩ : ∃ x, x = midL ls (plL ls a) (min (plL ls a + bs.length) ls.length - plL ls a) := ⟨_, rfl⟩
  rw [← ho] at k79
  have hol : (old.length : Int) = min (plL ls a + bs.length) ls.length - plL ls a := by
    rw [ho]; simp only [midL, cutL, List.length_drop, List.length_take]; omega
  have hok : appOk ls (plL ls a) old new = true := decide_eq_true ⟨by omega, by omega, by omega, by rw [hol]; exact ho.symm, by omega⟩
  have hap : appL ls (plL ls a) old new = ls.take (plL ls a).toNat ++ (new ++ ls.drop (plL ls a + old.length).toNat) := by rw [appL, if_pos hok]; simp [cutL]
  obtain ⟨now, hnow⟩ : ∃ x, x = appL ls (plL ls a) old new := ⟨_, rfl⟩
  have hl1 : (ls.take (plL ls a).toNat).length = (plL ls a).toNat := by rw [List.length_take]; omega
  have hnl2 : (now.length : Int) = max (ls.length : Int) (plL ls a + bs.length) := by
    rw [hnow, hap]; simp only [List.length_append, List.length_take, List.length_drop]; omega
  have hnowB := (appL_small (ls := ls) (old := old) (new := new) (a := plL ls a) (b := 10000) (fun n => by have := hr n; omega) hrB).2
  rw [← hnow] at hnowB
  have hrow : ∀ i : Nat, i < bs.length → now.getD ((plL ls a).toNat + i) [] = rowB ls bs (plL ls a) (if 0 < ((ls.getD (plL ls a).toNat []).length : Int) then plC ls a d + 1 else plC ls a d) i := fun i hi => by
    rw [← hrow0 i hi, hnow, hap, List.getD_eq_getElem?_getD, List.getElem?_append_right (by omega), hl1, List.getElem?_append_left (by omega), List.getD_eq_getElem?_getD]
    congr 2; omega
  have k54 := p54w ls bs (plL ls a) (plC ls a d) 2 1 false (by omega) (by omega) (by omega) hpl hmay (plL ls a) (plL ls a) (if 0 < ((ls.getD (plL ls a).toNat []).length : Int) then plC ls a d + 1 else plC ls a d) old new (by omega) (by omega) (by rw [← hnow]; omega) (fun n => by rw [← hnow]; have := hnowB n; omega) (by rw [← hnow]; omega) hok k79
  rw [← hnow] at k54
  have k41 := p41 ls old new (plL ls a) (by omega) (by omega) (by omega)
  rw [hok, ← hnow] at k41
  have k49 := p49 now (plL ls a) (if 0 < ((ls.getD (plL ls a).toNat []).length : Int) then plC ls a d + 1 else plC ls a d) false (by omega) (fun n => by have := hnowB n; omega) (by omega)
  by_cases he : ls.getD (plL ls a).toNat [] = []
  · rw [if_neg (by rw [he]; simp)] at hrow k49 k54
    exact p20w_falsee ls bs old new now a d _ _ _ he hl hr (by omega) (by omega) hg3 mr hpl hnl2 hrow k27 k27m k28 k54 k41 k49
  · rw [if_pos (by have := List.length_pos_iff.2 he; omega)] at hrow k49 k54
    exact p20w_falsen ls bs old new now a d _ _ _ he hl hr (by omega) (by omega) hg3 mr hpl hnl2 hrow k27 k27m k28 k54 k41 k49

set_option maxRecDepth 10000 in
set_option maxHeartbeats 8000000 in
theorem p20 (ls bs : List (List UInt8)) (a d : Int) (b : Bool) (hL : ls.length ≤ 140737488355328) (hB : ∀ n : Nat, (ls.getD n []).length ≤ 140737488355328) (hM : bs.length ≤ 140737488355328) (hMB : ∀ n : Nat, (bs.getD n []).length ≤ 140737488355328) (ha : inK .u16 a) (hd : inK .u16 d) : Pure Try.prog 20 [.slS ls, .slS bs, .int .u16 a, .int .u16 d, .bool b] (.bool true) := by
  by_cases hg : (decide (0 < (ls.length : Int)) && lightL ls) = true ∧ (decide (0 < (bs.length : Int)) && lightL bs) = true ∧ bs.length ≤ 8
  · cases b with
    | true => exact p20_true ls bs a d hL hB hM hMB ha hd hg
    | false => exact p20_false ls bs a d hL hB hM hMB ha hd hg
  · have hg' : (decide (0 < (ls.length : Int)) && lightL ls) = true → (decide (0 < (bs.length : Int)) && lightL bs) = true → bs.length ≤ 8 → False := fun x y z => hg ⟨x, y, z⟩
    have k27 := p27 ls hL hB
    have k27m := p27 bs hM hMB
    generalize (decide (0 < (ls.length : Int)) && lightL ls) = g1 at *
    generalize (decide (0 < (bs.length : Int)) && lightL bs) = g2 at *
    refine Pure.ofT tab2_ok Try.func20 rfl rfl [.tmp 10] rfl (by decide) rfl ⟨143, 8, (.node (.node (.node (.node (.node (.node (.node (.node (.leaf (.slS ls)) (J 0)) (J 1)) (J 2)) (J 3)) (J 4)) (.node (.node (.node (.node (.node (.leaf (.bool b)) (J 0)) (J 1)) (J 2)) (J 3)) (J 4))) (.node (.node (.node (.node (.node (.node (.leaf (.int .u16 a)) (J 0)) (J 1)) (J 2)) (J 3)) (J 4)) (J 5))) (.node (.node (.node (.node (.node (.node (.node (.leaf (.slS bs)) (J 0)) (J 1)) (J 2)) (J 3)) (J 4)) (J 5)) (.node (.node (.node (.node (.node (.node (.leaf (.int .u16 d)) (J 0)) (J 1)) (J 2)) (J 3)) (J 4)) (J 5)))), (OO 8)⟩ (by kernel_rfl) (by kernel_rfl) ?_
    repeat' (first
      | refine allProp_T ?_
      | exact trivial
      | (refine URun.id ?_; first
          | refine URun.nil ?_
          | refine URun.many tabs2 rfl rfl (by kernel_rfl) ?_ ?_
          | (refine URun.toCall 52 rfl ?_; first
            | refine URun.call tabs2 rfl rfl rfl rfl p52 rfl rfl ?_ rfl ?_)
          | (refine URun.toCall 27 rfl ?_; first
            | refine URun.callB tabs2 rfl rfl rfl rfl k27 rfl rfl ?_ rfl rfl (fun h => ?_) (fun h => ?_)
            | refine URun.callB tabs2 rfl rfl rfl rfl k27m rfl rfl ?_ rfl rfl (fun h => ?_) (fun h => ?_))
          | refine URun.same tabs2 rfl rfl rfl ?_
          | refine URun.same2 tabs2 rfl rfl rfl ?_
          | refine URun.yes tabs2 rfl rfl (by omega) rfl ?_
          | refine URun.no tabs2 rfl rfl (by omega) rfl ?_
          | refine URun.split tabs2 rfl rfl rfl rfl (fun h => ?_) (fun h => ?_))
      | (refine TRun.id ?_; first
          | refine TRun.nil ?_
          | refine TRun.many rfl rfl (by kernel_rfl) ?_ ?_
          | (refine TRun.toCall 52 rfl ?_; first
            | refine TRun.call rfl rfl rfl rfl p52 rfl rfl ?_ rfl ?_)
          | (refine TRun.toCall 27 rfl ?_; first
            | refine TRun.callB rfl rfl rfl rfl k27 rfl rfl ?_ rfl rfl (fun h => ?_) (fun h => ?_)
            | refine TRun.callB rfl rfl rfl rfl k27m rfl rfl ?_ rfl rfl (fun h => ?_) (fun h => ?_))
          | refine TRun.same rfl rfl rfl ?_
          | refine TRun.same2 rfl rfl rfl ?_
          | refine TRun.yes rfl rfl (by omega) rfl ?_
          | refine TRun.no rfl rfl (by omega) rfl ?_
          | refine TRun.split rfl rfl rfl rfl (fun h => ?_) (fun h => ?_))
      | (refine HoldsT.id ?_; first
          | refine HoldsT.seq ?_
          | refine HoldsT.regionU ?_
          | refine HoldsT.drawn tabs2 ?_
          | refine HoldsT.yes rfl ?_
          | refine HoldsT.no rfl ?_
          | refine HoldsT.cond rfl (fun h => ?_) (fun h => ?_)
          | refine HoldsT.block ?_
          | refine HoldsT.ret ?_
          | refine HoldsT.skip ?_
          | refine HoldsT.exit ?_)
      | (refine okTr_intro ?_; kernel_rfl)
      | exact absurd rfl h
      | exact (hg' ‹_› ‹_› (by omega)).elim
      | refine allProp_C ?_ ?_
      | refine And.intro ?_ ?_
      | omega
      | (show _ < List.length _; omega)
      | exact rowlen_intro rfl
      | exact lenEq_intro rfl
      | exact Nat.le_of_ble_eq_true rfl
      | (simp only [AV.rowlenD, AV.rowlen, AV.ncells, mulSz, toN, Option.map_some, Option.map_none, cutL, List.length_take, List.length_drop, List.length_append, List.length_cons, List.length_nil, List.length_set, Option.some.injEq, Int.reduceToNat] <;> omega))
    all_goals first | exact FinC.te (y := .bool true) rfl rfl trivial rfl | exact (hg' ‹_› ‹_› (by omega)).elim

end Go.Proofs.Ytefbgdnobnemkaa.AM
