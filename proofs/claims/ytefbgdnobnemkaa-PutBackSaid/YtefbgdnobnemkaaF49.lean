/-
  Blocks that are put.
-/
import Derived.Test.YtefbgdnobnemkaaM36
import Derived.Test.YtefbgdnobnemkaaF48
set_option linter.unusedSimpArgs false
set_option linter.unusedVariables false
set_option linter.unusedSectionVars false
namespace Go.Proofs.Ytefbgdnobnemkaa.AM
open Go Go.RowKit

/-- A line that is filled up with spaces. -/
def wideL (s : List UInt8) (n : Int) : List UInt8 := s ++ spc (max (n - s.length) 0)
theorem wideL_len (s : List UInt8) (n : Int) : ((wideL s n).length : Int) = max n s.length := by
  unfold wideL
  rw [List.length_append, spc_len]; omega
set_option maxRecDepth 10000 in
set_option maxHeartbeats 8000000 in
theorem p118 (s : List UInt8) (n : Int) (hs : s.length ≤ 1000000000) (hn : -1000000000 ≤ n ∧ n ≤ 1000000000) : Pure Try.prog 118 [.str s, .int .i64 n] (.str (wideL s n)) := by
  have k67 := p67s (max (n - s.length) 0) (by omega) (by omega)
  have hl := spc_len (i := max (n - s.length) 0)
  refine Pure.ofT tab2_ok Try.func118 rfl rfl [.tmp 4] rfl (by decide) rfl ⟨13, 4, (.node (.node (.node (.node (.leaf (.str s)) (J 0)) (J 1)) (J 2)) (.node (.node (.node (.leaf (.int .i64 n)) (J 0)) (J 1)) (J 2))), (OO 4)⟩ (by kernel_rfl) (by kernel_rfl) ?_
  repeat' (first
    | refine allProp_T ?_
    | exact trivial
    | (refine URun.id ?_; first
        | refine URun.nil ?_
        | refine URun.many tabs2 rfl rfl (by kernel_rfl) ?_ ?_
        | (refine URun.toCall 67 rfl ?_; first
          | refine URun.call tabs2 rfl rfl rfl rfl k67 rfl rfl ?_ rfl ?_)
        | refine URun.same tabs2 rfl rfl rfl ?_
        | refine URun.same2 tabs2 rfl rfl rfl ?_
        | refine URun.split tabs2 rfl rfl rfl rfl (fun h => ?_) (fun h => ?_))
    | (refine TRun.id ?_; first
        | refine TRun.nil ?_
        | refine TRun.many rfl rfl (by kernel_rfl) ?_ ?_
        | (refine TRun.toCall 67 rfl ?_; first
          | refine TRun.call rfl rfl rfl rfl k67 rfl rfl ?_ rfl ?_)
        | refine TRun.same rfl rfl rfl ?_
        | refine TRun.same2 rfl rfl rfl ?_
        | refine TRun.split rfl rfl rfl rfl (fun h => ?_) (fun h => ?_))
    | (refine HoldsT.id ?_; first
        | refine HoldsT.seq ?_
        | refine HoldsT.regionU ?_
        | refine HoldsT.drawn tabs2 ?_
        | refine HoldsT.yes rfl ?_
        | refine HoldsT.no rfl ?_
        | refine HoldsT.cond rfl (fun h => ?_) (fun h => ?_)
        | refine HoldsT.block ?_
        | refine HoldsT.ret ?_
        | refine HoldsT.skip ?_
        | refine HoldsT.exit ?_)
    | (refine okTr_intro ?_; kernel_rfl)
    | exact absurd rfl h
    | refine allProp_C ?_ ?_
    | refine And.intro ?_ ?_
    | omega
    | (show _ < List.length _; omega)
    | exact rowlen_intro rfl
    | exact lenEq_intro rfl
    | exact Nat.le_of_ble_eq_true rfl
    | (simp only [AV.rowlenD, AV.rowlen, AV.ncells, mulSz, toN, Option.map_some, Option.map_none, cutL, List.length_take, List.length_drop, List.length_append, List.length_cons, List.length_nil, List.length_set, Option.some.injEq, Int.reduceToNat] <;> omega))
  all_goals exact FinC.te (y := .str _) rfl rfl trivial rfl

/-- A line of a block that is put: into the text's line, made as wide as is wanted. -/
def rowB (ls rs : List (List UInt8)) (l c : Int) (i : Nat) : List UInt8 :=
  let was := wideL (ls.getD (l.toNat + i) []) c
  was.take c.toNat ++ rs.getD i [] ++ was.drop c.toNat
def rowsB (ls rs : List (List UInt8)) (l c : Int) (n : Nat) : List (List UInt8) := (List.range n).map (rowB ls rs l c)
theorem rowsB_succ (ls rs : List (List UInt8)) (l c : Int) (n : Nat) : rowsB ls rs l c (n + 1) = rowsB ls rs l c n ++ [rowB ls rs l c n] := by
  unfold rowsB; rw [List.range_succ, List.map_append]; rfl

def sh99a (ls rs : List (List UInt8)) (l c k w i : Int) : TS := ⟨100, 7, (.node (.node (.node (.node (.node (.node (.node (.leaf (.slS ls)) (J 0)) (J 1)) (J 2)) (.node (.node (.node (.leaf (.ptr 8 0)) (J 0)) (J 1)) (J 2))) (.node (.node (J 2) (.node (.node (.leaf (.slS rs)) (J 0)) (J 1))) (J 3))) (.node (J 4) (.node (.node (.node (.node (.leaf (.ptr 6 0)) (J 0)) (J 1)) (.node (.node (.leaf (.int .i64 i)) (J 0)) (J 1))) (J 3)))) (.node (.node (.node (J 3) (.node (.node (.node (.leaf (.ptr 9 0)) (J 0)) (J 1)) (J 2))) (.node (.node (.node (.node (.leaf (.ptr 5 0)) (J 0)) (J 1)) (.node (.node (.leaf (.int .i64 (rs.length : Int))) (J 0)) (J 1))) (J 3))) (.node (.node (.node (.node (.node (.leaf (.int .i64 1)) (J 0)) (J 1)) (J 2)) (.node (.node (.node (.leaf (.int .i64 w)) (J 0)) (J 1)) (J 2))) (J 4)))), (.node (.node (.node (.node (OO 3) (.node (.node (.node (.leaf (some ⟨true, false, .agg [.int .i64 0, .nilsl, .nilsl], 47⟩)) (OO 0)) (OO 1)) (OO 2))) (OO 4)) (.node (OO 4) (.node (.node (.node (.node (.leaf (some ⟨true, false, .agg [.int .i64 k, .slS rs], 71⟩)) (OO 0)) (OO 1)) (OO 2)) (OO 3)))) (.node (.node (.node (OO 3) (.node (.node (.node (.leaf (some ⟨true, false, .agg [.int .i64 0, .int .i64 0], 23⟩)) (OO 0)) (OO 1)) (OO 2))) (.node (.node (.node (.node (.leaf (some ⟨true, false, .agg [.int .i64 l, .int .i64 c], 23⟩)) (OO 0)) (OO 1)) (OO 2)) (OO 3))) (OO 5)))⟩
def sh99b (ls rs out : List (List UInt8)) (l c k w e i : Int) : TS := ⟨100, 7, (.node (.node (.node (.node (.node (.node (.node (.leaf (.slS ls)) (J 0)) (J 1)) (J 2)) (.node (.node (.node (.leaf (.ptr 8 0)) (J 0)) (J 1)) (J 2))) (.node (.node (J 2) (.node (J 1) (.node (.leaf (.int .i64 i)) (J 0)))) (J 3))) (.node (.node (.node (J 2) (.node (J 1) (.node (.leaf (.slS rs)) (J 0)))) (J 3)) (.node (.node (.node (.node (.leaf (.ptr 6 0)) (J 0)) (J 1)) (J 2)) (.node (.node (.node (.leaf (.int .i64 e)) (J 0)) (J 1)) (J 2))))) (.node (.node (.node (J 3) (.node (.node (.node (.leaf (.ptr 9 0)) (J 0)) (J 1)) (J 2))) (.node (.node (.node (.node (.leaf (.ptr 5 0)) (J 0)) (J 1)) (J 2)) (J 3))) (.node (.node (.node (.node (.node (.leaf (.int .i64 1)) (J 0)) (J 1)) (.node (J 1) (.node (.leaf (.int .i64 (rs.length : Int))) (J 0)))) (.node (.node (.node (.leaf (.int .i64 w)) (J 0)) (J 1)) (J 2))) (.node (J 3) (.node (.node (.node (.leaf (.ptr 15 0)) (J 0)) (J 1)) (J 2)))))), (.node (.node (.node (.node (OO 3) (.node (.node (.node (.leaf (some ⟨true, false, .agg [.int .i64 0, .nilsl, .nilsl], 47⟩)) (OO 0)) (OO 1)) (OO 2))) (OO 4)) (.node (OO 4) (.node (.node (.node (.node (.leaf (some ⟨true, false, .agg [.int .i64 k, .slS rs], 71⟩)) (OO 0)) (OO 1)) (OO 2)) (OO 3)))) (.node (.node (.node (OO 3) (.node (.node (.node (.leaf (some ⟨true, false, .agg [.int .i64 0, .int .i64 0], 23⟩)) (OO 0)) (OO 1)) (OO 2))) (.node (.node (.node (.node (.leaf (some ⟨true, false, .agg [.int .i64 l, .int .i64 c], 23⟩)) (OO 0)) (OO 1)) (OO 2)) (OO 3))) (.node (OO 4) (.node (OO 3) (.node (.node (.node (.leaf (some ⟨true, false, .agg [.int .i64 l, .slS (cutL ls (some l.toNat) (some e.toNat)), .own 95 out.length], 47⟩)) (OO 0)) (OO 1)) (.node (.node (OO 0) (.leaf (some ⟨true, true, .slS out, 9⟩))) (OO 1)))))))⟩
set_option maxRecDepth 10000 in
set_option maxHeartbeats 8000000 in
theorem p99 (ls rs : List (List UInt8)) (l c k : Int) (hL : ls.length ≤ 1000000000) (hB : ∀ n : Nat, (ls.getD n []).length ≤ 1000000) (h0 : 0 ≤ l) (h1 : l < ls.length) (hc : 0 ≤ c) (hc2 : c ≤ 1000000) (hr : rs.length ≤ 1000000) (hR : ∀ n : Nat, (rs.getD n []).length ≤ 1000000) :
    Pure Try.prog 99 [.slS ls, .agg [.int .i64 l, .int .i64 c], .agg [.int .i64 k, .slS rs], .int .i64 1] (TyR.av ⟨true, l, midL ls l (min (l + rs.length) ls.length - l), rowsB ls rs l c rs.length, l, c⟩) := by
  refine Pure.ofT tab2_ok Try.func99 rfl rfl [.cell 8 47, .cell 9 23, .tmp 10] rfl (by decide) rfl ⟨100, 7, (.node (.node (.node (.node (.node (.node (.node (.leaf (.slS ls)) (J 0)) (J 1)) (J 2)) (J 3)) (J 4)) (.node (.node (.node (.node (.node (.leaf (.agg [.int .i64 k, .slS rs])) (J 0)) (J 1)) (J 2)) (J 3)) (J 4))) (.node (.node (.node (.node (.node (.node (.leaf (.agg [.int .i64 l, .int .i64 c])) (J 0)) (J 1)) (J 2)) (J 3)) (J 4)) (.node (.node (.node (.node (.node (.leaf (.int .i64 1)) (J 0)) (J 1)) (J 2)) (J 3)) (J 4)))), (OO 7)⟩ (by kernel_rfl) (by kernel_rfl) ?_
  repeat' (first
    | refine allProp_T ?_
    | exact trivial
    | (refine URun.id ?_; first
        | refine URun.nil ?_
        | refine URun.many tabs2 rfl rfl (by kernel_rfl) ?_ ?_
        | refine URun.same tabs2 rfl rfl rfl ?_
        | refine URun.same2 tabs2 rfl rfl rfl ?_
        | refine URun.split tabs2 rfl rfl rfl rfl (fun h => ?_) (fun h => ?_))
    | (refine TRun.id ?_; first
        | refine TRun.nil ?_
        | refine TRun.many rfl rfl (by kernel_rfl) ?_ ?_
        | refine TRun.same rfl rfl rfl ?_
        | refine TRun.same2 rfl rfl rfl ?_
        | refine TRun.split rfl rfl rfl rfl (fun h => ?_) (fun h => ?_))
    | (refine HoldsT.id ?_; first
        | refine HoldsT.seq ?_
        | refine HoldsT.regionU ?_
        | refine HoldsT.drawn tabs2 ?_
        | refine HoldsT.yes rfl ?_
        | refine HoldsT.no rfl ?_
        | refine HoldsT.cond rfl (fun h => ?_) (fun h => ?_)
        | refine HoldsT.block ?_
        | refine HoldsT.ret ?_
        | refine HoldsT.skip ?_
        | refine HoldsT.exit ?_)
    | (refine okTr_intro ?_; kernel_rfl)
    | exact absurd rfl h
    | refine allProp_C ?_ ?_
    | refine And.intro ?_ ?_
    | omega
    | (show _ < List.length _; omega)
    | exact rowlen_intro rfl
    | exact lenEq_intro rfl
    | exact Nat.le_of_ble_eq_true rfl
    | (simp only [AV.rowlenD, AV.rowlen, AV.ncells, mulSz, toN, Option.map_some, Option.map_none, cutL, List.length_take, List.length_drop, List.length_append, List.length_cons, List.length_nil, List.length_set, Option.some.injEq, Int.reduceToNat] <;> omega))
  refine HoldsT.loop (fun x : Int × Int => sh99a ls rs l c k x.1 x.2) (fun x => (rs.length - x.2).toNat) (fun x => 0 ≤ x.2 ∧ x.2 ≤ rs.length ∧ 0 ≤ x.1 ∧ x.1 ≤ 1000000) (0, 0) ?_ ?_ (fun _ => by kernel_rfl) ?_
  · refine WeakT.of ?_ ?_ (by kernel_rfl)
    · repeat' (first | exact TTle.junk _ _ | exact TTle.same _ | refine TTle.node ?_ ?_ | refine TTle.leaf ?_ | exact AVle.junk _ | exact AVle.rfl' rfl | exact AVle.nilS | exact AVle.nilB)
    · repeat' (first | exact OOle.none _ _ | exact OOle.same _ | refine OOle.node ?_ ?_ | exact OOle.leaf _ | exact OOle.gone _)
  · exact ⟨by simp, by simp, by simp, by simp⟩
  · intro x hx
    obtain ⟨w, i⟩ := x
    obtain ⟨g1, g2, g3, g4⟩ := hx
    simp only at g1 g2 g3 g4
    have hri := hR i.toNat
    have k66 := p66 (cutL ls (some l.toNat) (some (min (l + rs.length) ls.length).toNat)) (by have := cutL_le ls (some l.toNat) (some (min (l + rs.length) ls.length).toNat); omega)
    show HoldsT Try.prog _ (sh99a ls rs l c k w i) _
    repeat' (first
      | refine allProp_T ?_
      | exact trivial
      | (refine URun.id ?_; first
          | refine URun.nil ?_
          | refine URun.many tabs2 rfl rfl (by kernel_rfl) ?_ ?_
          | (refine URun.toCall 66 rfl ?_; first
            | refine URun.call tabs2 rfl rfl rfl rfl k66 rfl rfl ?_ rfl ?_)
          | refine URun.same tabs2 rfl rfl rfl ?_
          | refine URun.same2 tabs2 rfl rfl rfl ?_
          | refine URun.split tabs2 rfl rfl rfl rfl (fun h => ?_) (fun h => ?_))
      | (refine TRun.id ?_; first
          | refine TRun.nil ?_
          | refine TRun.many rfl rfl (by kernel_rfl) ?_ ?_
          | (refine TRun.toCall 66 rfl ?_; first
            | refine TRun.call rfl rfl rfl rfl k66 rfl rfl ?_ rfl ?_)
          | refine TRun.same rfl rfl rfl ?_
          | refine TRun.same2 rfl rfl rfl ?_
          | refine TRun.split rfl rfl rfl rfl (fun h => ?_) (fun h => ?_))
      | (refine HoldsT.id ?_; first
          | refine HoldsT.seq ?_
          | refine HoldsT.regionU ?_
          | refine HoldsT.drawn tabs2 ?_
          | refine HoldsT.yes rfl ?_
          | refine HoldsT.no rfl ?_
          | refine HoldsT.cond rfl (fun h => ?_) (fun h => ?_)
          | refine HoldsT.block ?_
          | refine HoldsT.ret ?_
          | refine HoldsT.skip ?_
          | refine HoldsT.exit ?_)
      | (refine okTr_intro ?_; kernel_rfl)
      | exact absurd rfl h
      | refine allProp_C ?_ ?_
      | refine And.intro ?_ ?_
      | omega
      | (show _ < List.length _; omega)
      | exact rowlen_intro rfl
      | exact lenEq_intro rfl
      | exact Nat.le_of_ble_eq_true rfl
      | (simp only [AV.rowlenD, AV.rowlen, AV.ncells, mulSz, toN, Option.map_some, Option.map_none, cutL, List.length_take, List.length_drop, List.length_append, List.length_cons, List.length_nil, List.length_set, Option.some.injEq, Int.reduceToNat] <;> omega))
    · refine ⟨(max w ((rs.getD i.toNat []).length), i + 1), ⟨by simp only; omega, by simp only; omega, by simp only; omega, by simp only; omega, by simp only; omega⟩, ?_⟩
      refine WeakT.of ?_ ?_ (by kernel_rfl)
      · repeat' (first | exact TTle.junk _ _ | exact TTle.same _ | refine TTle.node ?_ ?_ | refine TTle.leaf ?_ | exact AVle.junk _ | exact AVle.rfl' rfl | exact AVle.nilS | exact AVle.nilB)
      · repeat' (first | exact OOle.none _ _ | exact OOle.same _ | refine OOle.node ?_ ?_ | exact OOle.leaf _ | exact OOle.gone _)
    · refine HoldsT.loop (fun x : Int × List (List UInt8) => sh99b ls rs x.2 l c k w (min (l + rs.length) ls.length) x.1) (fun x => (rs.length - x.1).toNat) (fun x => 0 ≤ x.1 ∧ x.1 ≤ rs.length ∧ x.2 = rowsB ls rs l c x.1.toNat) (0, []) ?_ ?_ (fun _ => by kernel_rfl) ?_
      · refine (WeakT.canonF 15 2 95 9 (.slS []) rfl rfl rfl rfl rfl (by kernel_rfl) rfl rfl).trans ?_
        refine WeakT.of ?_ ?_ (by kernel_rfl)
        · repeat' (first | exact TTle.junk _ _ | exact TTle.same _ | refine TTle.node ?_ ?_ | refine TTle.leaf ?_ | exact AVle.junk _ | exact AVle.rfl' rfl | exact AVle.nilS | exact AVle.nilB)
        · repeat' (first | exact OOle.none _ _ | exact OOle.same _ | refine OOle.node ?_ ?_ | exact OOle.leaf _ | exact OOle.gone _)
      · exact ⟨by simp, by simp, rfl⟩
      · intro x hx
        obtain ⟨j, out⟩ := x
        obtain ⟨q1, q2, q3⟩ := hx
        simp only at q1 q2 q3
        have hol : out.length = j.toNat := by rw [q3]; simp [rowsB]
        have hrj := hR j.toNat
        have hlj := hB (l + j).toNat
        have hsp := fun s : List UInt8 => wideL_len s c
        have hsp2 := wideL_len (rs.getD j.toNat []) w
        generalize he : min (l + rs.length) (ls.length : Int) = e at *
        have k118a := p118 [] c (by simp) (by omega)
        have k118b := p118 (ls.getD (l + j).toNat []) c (by omega) (by omega)
        have k118c := p118 (rs.getD j.toNat []) w (by omega) (by omega)
        have k67 : Pure Try.prog 67 [.str (wideL (rs.getD j.toNat []) w), .int .i64 0] (.str []) := p67 (wideL (rs.getD j.toNat []) w) 0 (by omega) (by simp) (by omega)
        have hz1 : ((wideL [] c).length : Int) = max c 0 := hsp []
        have hz2 := hsp (ls.getD (l + j).toNat [])
        show HoldsT Try.prog _ (sh99b ls rs out l c k w e j) _
        repeat' (first
          | refine allProp_T ?_
          | exact trivial
          | (refine URun.id ?_; first
              | refine URun.nil ?_
              | refine URun.many tabs2 rfl rfl (by kernel_rfl) ?_ ?_
              | (refine URun.toCall 118 rfl ?_; first
                | refine URun.call tabs2 rfl rfl rfl rfl k118a rfl rfl ?_ rfl ?_
                | refine URun.call tabs2 rfl rfl rfl rfl k118b rfl rfl ?_ rfl ?_
                | refine URun.call tabs2 rfl rfl rfl rfl k118c rfl rfl ?_ rfl ?_)
              | (refine URun.toCall 67 rfl ?_; first
                | refine URun.call tabs2 rfl rfl rfl rfl k67 rfl rfl ?_ rfl ?_)
              | refine URun.same tabs2 rfl rfl rfl ?_
              | refine URun.same2 tabs2 rfl rfl rfl ?_
              | refine URun.split tabs2 rfl rfl rfl rfl (fun h => ?_) (fun h => ?_))
          | (refine TRun.id ?_; first
              | refine TRun.nil ?_
              | refine TRun.many rfl rfl (by kernel_rfl) ?_ ?_
              | (refine TRun.toCall 118 rfl ?_; first
                | refine TRun.call rfl rfl rfl rfl k118a rfl rfl ?_ rfl ?_
                | refine TRun.call rfl rfl rfl rfl k118b rfl rfl ?_ rfl ?_
                | refine TRun.call rfl rfl rfl rfl k118c rfl rfl ?_ rfl ?_)
              | (refine TRun.toCall 67 rfl ?_; first
                | refine TRun.call rfl rfl rfl rfl k67 rfl rfl ?_ rfl ?_)
              | refine TRun.same rfl rfl rfl ?_
              | refine TRun.same2 rfl rfl rfl ?_
              | refine TRun.split rfl rfl rfl rfl (fun h => ?_) (fun h => ?_))
          | (refine HoldsT.id ?_; first
              | refine HoldsT.seq ?_
              | refine HoldsT.regionU ?_
              | refine HoldsT.drawn tabs2 ?_
              | refine HoldsT.yes rfl ?_
              | refine HoldsT.no rfl ?_
              | refine HoldsT.cond rfl (fun h => ?_) (fun h => ?_)
              | refine HoldsT.block ?_
              | refine HoldsT.ret ?_
              | refine HoldsT.skip ?_
              | refine HoldsT.exit ?_)
          | (refine okTr_intro ?_; kernel_rfl)
          | exact absurd rfl h
          | refine allProp_C ?_ ?_
          | refine And.intro ?_ ?_
          | omega
          | (show _ < List.length _; omega)
          | exact rowlen_intro rfl
          | exact lenEq_intro rfl
          | exact Nat.le_of_ble_eq_true rfl
          | (simp only [AV.rowlenD, AV.rowlen, AV.ncells, mulSz, toN, Option.map_some, Option.map_none, cutL, List.length_take, List.length_drop, List.length_append, List.length_cons, List.length_nil, List.length_set, Option.some.injEq, Int.reduceToNat] <;> omega))
        rotate_right
        · refine FinC.te (y := .tup [.agg [.int .i64 _, .slS _, .slS _], .agg [.int .i64 _, .int .i64 _], .bool _]) rfl rfl ⟨⟨trivial, trivial, ⟨rfl, trivial⟩, trivial⟩, ⟨trivial, trivial, trivial⟩, trivial, trivial⟩ ?_
          unfold TyR.av midL
          simp only
          rw [q3, show j = rs.length by omega, show l + (e - l) = e by omega]
          rfl
        all_goals
          have hrow : ∀ s : List UInt8, s = ls.getD (l + j).toNat [] → cutL (wideL s c) none (some c.toNat) ++ [] ++ rs.getD j.toNat [] ++ cutL (wideL s c) (some c.toNat) none = rowB ls rs l c j.toNat := fun s e => by
            subst e
            unfold rowB
            rw [show (l + j).toNat = l.toNat + j.toNat by omega, List.append_nil]; rfl
          have hmore : ∀ s : List UInt8, s = ls.getD (l + j).toNat [] → out ++ [cutL (wideL s c) none (some c.toNat) ++ [] ++ rs.getD j.toNat [] ++ cutL (wideL s c) (some c.toNat) none] = rowsB ls rs l c (j.toNat + 1) := fun s e => by
            rw [hrow s e, rowsB_succ, q3]
          refine ⟨(j + 1, rowsB ls rs l c (j.toNat + 1)), ⟨by simp only; omega, by simp only; omega, by simp only; omega, by simp only; rw [toNat_succ q1]⟩, ?_⟩
          refine WeakT.of ?_ ?_ (by kernel_rfl)
          · repeat' (first | exact TTle.junk _ _ | exact TTle.same _ | refine TTle.node ?_ ?_ | refine TTle.leaf ?_ | exact AVle.junk _ | exact AVle.rfl' rfl)
          · have hlen : out.length + 1 = (rowsB ls rs l c (j.toNat + 1)).length := by simp [rowsB]; exact hol
            have hout : ls.length ≤ (l + j).toNat → [] = ls.getD (l + j).toNat [] := fun h => by rw [List.getD_eq_getElem?_getD, List.getElem?_eq_none h]; rfl
            repeat' (first | exact OOle.none _ _ | exact OOle.same _ | refine OOle.node ?_ ?_ | exact OOle.leaf _ | exact OOle.eq (congrArg (fun z => some (Obj.mk true true (.slS z) 9)) (hmore _ rfl)) | exact OOle.eq (congrArg (fun z => some (Obj.mk true true (.slS z) 9)) (hmore _ (hout (by omega)))) | exact OOle.eq (congrArg (fun z => some (Obj.mk true false (.agg [.int .i64 l, .slS (cutL ls (some l.toNat) (some e.toNat)), .own 95 z]) 47)) hlen) | exact OOle.gone _)

end Go.Proofs.Ytefbgdnobnemkaa.AM
