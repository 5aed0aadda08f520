/-
  Bytes that are put: the law.
-/
import Derived.Test.YtefbgdnobnemkaaF51
set_option linter.unusedSimpArgs false
set_option linter.unusedVariables false
set_option linter.unusedSectionVars false
namespace Go.Proofs.Ytefbgdnobnemkaa.AM
open Go Go.RowKit

/-- A text, n times. -/
def repT (t : List UInt8) : Nat → List UInt8
  | 0 => []
  | n + 1 => repT t n ++ t
theorem repT_le {t : List UInt8} (h : t.length ≤ 40) : ∀ n, (repT t n).length ≤ 40 * n
  | 0 => by simp [repT]
  | n + 1 => by have := repT_le h n; rw [repT, List.length_append]; omega
theorem repT_pos {t : List UInt8} (h : 0 < t.length) : ∀ {n : Nat}, 0 < n → 0 < (repT t n).length
  | n + 1, _ => by rw [repT, List.length_append]; omega
theorem glueN_one (t : List UInt8) : ∀ m, glueN [t] m = [repT t (m + 1)]
  | 0 => by simp [glueN, repT]
  | m + 1 => by
    rw [glueN, glueN_one t m]
    show glueL [repT t (m + 1)] [t] = [repT t (m + 1) ++ t]
    simp [glueL]
theorem writeL_one (s x : List UInt8) (c : Int) : writeL s c [x] = [s.take c.toNat ++ x ++ s.drop c.toNat] := by simp [writeL, cutL]
theorem chC_one (c : Int) (x : List UInt8) : chC c [x] = c + max ((x.length : Int) - 1) 0 := by simp [chC]

def sh21true (ln tx all N : List UInt8) (q c m i : Int) : TS := ⟨104, 7, (.node (.node (.node (.node (.node (.node (.node (.leaf (.str ln)) (J 0)) (J 1)) (.node (.node (.leaf (.str all)) (J 0)) (J 1))) (J 3)) (.node (J 3) (.node (.node (.node (.leaf (.int .i64 m)) (J 0)) (J 1)) (J 2)))) (.node (J 4) (.node (J 3) (.node (.node (.node (.leaf (.ptr 14 0)) (J 0)) (J 1)) (J 2))))) (.node (.node (.node (.node (.node (.node (.leaf (.str tx)) (J 0)) (J 1)) (.node (.node (.leaf (.int .i64 i)) (J 0)) (J 1))) (J 3)) (.node (J 3) (.node (.node (.node (.leaf (.ptr 13 0)) (J 0)) (J 1)) (J 2)))) (.node (.node (J 3) (.node (.node (.node (.leaf (.int .i64 c)) (J 0)) (J 1)) (J 2))) (.node (J 3) (.node (.node (.node (.leaf (.bool true)) (J 0)) (J 1)) (J 2)))))), (.node (.node (OO 5) (.node (OO 4) (.node (OO 3) (.node (.node (.node (.leaf (some ⟨true, false, .agg [.int .i64 0, .int .i64 q], 23⟩)) (OO 0)) (OO 1)) (OO 2))))) (.node (.node (OO 4) (.node (OO 3) (.node (.node (.node (.leaf (some ⟨true, false, .agg [.int .i64 0, .slS [ln], .slS [N]], 47⟩)) (OO 0)) (OO 1)) (OO 2)))) (OO 5)))⟩
set_option maxRecDepth 10000 in
set_option maxHeartbeats 8000000 in
theorem p21w_true (ln tx N : List UInt8) (a n q : Int) (ha : 0 ≤ a ∧ a ≤ 65535) (hn : 0 ≤ n ∧ n ≤ 255) (h1 : ln.length ≤ 100) (h2 : tx.length ≤ 40) (h3 : ¬ tx = [])
    (hN : N = cutL ln none (some (a.tmod ((ln.length : Int) + 1)).toNat) ++ repT tx (n.tmod 4 + 1).toNat ++ cutL ln (some (a.tmod ((ln.length : Int) + 1)).toNat) none) (hq : q = (a.tmod ((ln.length : Int) + 1)) + (repT tx (n.tmod 4 + 1).toNat).length - 1)
    (k31 : Pure Try.prog 31 [.slS [ln, tx]] (.bool true))
    (k54 : Pure Try.prog 54 [.slS [ln], .agg [.int .i64 0, .int .i64 (a.tmod ((ln.length : Int) + 1))], .agg [.int .i64 0, .slS [tx]], .bool true, .int .i64 (n.tmod 4 + 1)] (.tup [.agg [.int .i64 0, .slS [ln], .slS [N]], .agg [.int .i64 0, .int .i64 q], .bool true])) :
    Pure Try.prog 21 [.str ln, .str tx, .int .u16 a, .int .u8 n, .bool true] (.bool true) := by
  have hn4 := tmod_in hn.1 (show (0 : Int) < 4 by omega)
  have hc := tmod_in ha.1 (show (0 : Int) < (ln.length : Int) + 1 by omega)
  have k30 : Pure Try.prog 30 [.slS [N], .slS [N]] (.bool true) := by
    have h := p30 [N] [N] (by simp)
    rwa [decide_eq_true rfl] at h
  refine Pure.ofT tab2_ok Try.func21 rfl rfl [.tmp 10] rfl (by decide) rfl ⟨104, 7, (.node (.node (.node (.node (.node (.node (.node (.leaf (.str ln)) (J 0)) (J 1)) (J 2)) (J 3)) (.node (.node (.node (.node (.leaf (.bool true)) (J 0)) (J 1)) (J 2)) (J 3))) (.node (.node (.node (.node (.node (.leaf (.int .u16 a)) (J 0)) (J 1)) (J 2)) (J 3)) (J 4))) (.node (.node (.node (.node (.node (.node (.leaf (.str tx)) (J 0)) (J 1)) (J 2)) (J 3)) (J 4)) (.node (.node (.node (.node (.node (.leaf (.int .u8 n)) (J 0)) (J 1)) (J 2)) (J 3)) (J 4)))), (OO 7)⟩ (by kernel_rfl) (by kernel_rfl) ?_
  repeat' (first
    | refine allProp_T ?_
    | exact trivial
    | (refine URun.id ?_; first
        | refine URun.nil ?_
        | refine URun.many tabs2 rfl rfl (by kernel_rfl) ?_ ?_
        | (refine URun.toCall 52 rfl ?_; first
          | refine URun.call tabs2 rfl rfl rfl rfl p52 rfl rfl ?_ rfl ?_)
        | (refine URun.toCall 31 rfl ?_; first
          | refine URun.call tabs2 rfl rfl rfl rfl k31 rfl rfl ?_ rfl ?_)
        | (refine URun.toCall 54 rfl ?_; first
          | refine URun.call tabs2 rfl rfl rfl rfl k54 rfl rfl ?_ rfl ?_)
        | refine URun.same tabs2 rfl rfl rfl ?_
        | refine URun.same2 tabs2 rfl rfl rfl ?_
        | refine URun.yes tabs2 rfl rfl rfl rfl ?_
        | refine URun.no tabs2 rfl rfl rfl rfl ?_
        | refine URun.yes tabs2 rfl rfl h3 rfl ?_
        | refine URun.no tabs2 rfl rfl h3 rfl ?_
        | refine URun.yes tabs2 rfl rfl (by omega) rfl ?_
        | refine URun.no tabs2 rfl rfl (by omega) rfl ?_
        | refine URun.split tabs2 rfl rfl rfl rfl (fun h => ?_) (fun h => ?_))
    | (refine TRun.id ?_; first
        | refine TRun.nil ?_
        | refine TRun.many rfl rfl (by kernel_rfl) ?_ ?_
        | (refine TRun.toCall 52 rfl ?_; first
          | refine TRun.call rfl rfl rfl rfl p52 rfl rfl ?_ rfl ?_)
        | (refine TRun.toCall 31 rfl ?_; first
          | refine TRun.call rfl rfl rfl rfl k31 rfl rfl ?_ rfl ?_)
        | (refine TRun.toCall 54 rfl ?_; first
          | refine TRun.call rfl rfl rfl rfl k54 rfl rfl ?_ rfl ?_)
        | refine TRun.same rfl rfl rfl ?_
        | refine TRun.same2 rfl rfl rfl ?_
        | refine TRun.yes rfl rfl rfl rfl ?_
        | refine TRun.no rfl rfl rfl rfl ?_
        | refine TRun.yes rfl rfl h3 rfl ?_
        | refine TRun.no rfl rfl h3 rfl ?_
        | refine TRun.yes rfl rfl (by omega) rfl ?_
        | refine TRun.no rfl rfl (by omega) rfl ?_
        | refine TRun.split rfl rfl rfl rfl (fun h => ?_) (fun h => ?_))
    | (refine HoldsT.id ?_; first
        | refine HoldsT.seq ?_
        | refine HoldsT.regionU ?_
        | refine HoldsT.drawn tabs2 ?_
        | refine HoldsT.yes rfl ?_
        | refine HoldsT.no rfl ?_
        | refine HoldsT.cond rfl (fun h => ?_) (fun h => ?_)
        | refine HoldsT.block ?_
        | refine HoldsT.ret ?_
        | refine HoldsT.skip ?_
        | refine HoldsT.exit ?_)
    | (refine okTr_intro ?_; kernel_rfl)
    | exact absurd rfl h
    | exact rowGk rfl rfl rfl
    | refine allProp_C ?_ ?_
    | refine And.intro ?_ ?_
    | omega
    | (show _ < List.length _; omega)
    | exact rowlen_intro rfl
    | exact lenEq_intro rfl
    | exact Nat.le_of_ble_eq_true rfl
    | (simp only [AV.rowlenD, AV.rowlen, AV.ncells, mulSz, toN, Option.map_some, Option.map_none, cutL, List.length_take, List.length_drop, List.length_append, List.length_cons, List.length_nil, List.length_set, Option.some.injEq, Int.reduceToNat] <;> omega))
  refine HoldsT.loop (fun x : Int × List UInt8 => sh21true ln tx x.2 N q (a.tmod ((ln.length : Int) + 1)) (n.tmod 4 + 1) x.1) (fun x => (n.tmod 4 + 1 - x.1).toNat) (fun x => 0 ≤ x.1 ∧ x.1 ≤ n.tmod 4 + 1 ∧ x.2 = repT tx x.1.toNat) (0, []) ?_ ?_ (fun _ => by kernel_rfl) ?_
  · refine WeakT.of ?_ ?_ (by kernel_rfl)
    · repeat' (first | exact TTle.junk _ _ | exact TTle.same _ | refine TTle.node ?_ ?_ | refine TTle.leaf ?_ | exact AVle.junk _ | exact AVle.rfl' rfl | exact AVle.nilS | exact AVle.nilB)
    · repeat' (first | exact OOle.none _ _ | exact OOle.same _ | refine OOle.node ?_ ?_ | exact OOle.leaf _ | exact OOle.gone _)
  · exact ⟨by simp, by simp only; omega, rfl⟩
  · intro x hx
    obtain ⟨i, all⟩ := x
    obtain ⟨g1, g2, g3⟩ := hx
    simp only at g1 g2 g3
    have hr := repT_le h2 i.toNat
    rw [← g3] at hr
    have hall : ¬ i < n.tmod 4 + 1 → cutL ln none (some (a.tmod ((ln.length : Int) + 1)).toNat) ++ all ++ cutL ln (some (a.tmod ((ln.length : Int) + 1)).toNat) none = N := fun h => by
      rw [hN, g3, show i = n.tmod 4 + 1 by omega]
    have hlen : ¬ i < n.tmod 4 + 1 → q = (a.tmod ((ln.length : Int) + 1)) + (all.length : Int) - 1 := fun h => by
      rw [hq, g3, show i = n.tmod 4 + 1 by omega]
    have k30' : ¬ i < n.tmod 4 + 1 → Pure Try.prog 30 [.slS [N], .slS [cutL ln none (some (a.tmod ((ln.length : Int) + 1)).toNat) ++ all ++ cutL ln (some (a.tmod ((ln.length : Int) + 1)).toNat) none]] (.bool true) := fun h => by rw [hall h]; exact k30
    show HoldsT Try.prog _ (sh21true ln tx all N q (a.tmod ((ln.length : Int) + 1)) (n.tmod 4 + 1) i) _
    repeat' (first
      | refine allProp_T ?_
      | exact trivial
      | (refine URun.id ?_; first
          | refine URun.nil ?_
          | refine URun.many tabs2 rfl rfl (by kernel_rfl) ?_ ?_
          | (refine URun.toCall 30 rfl ?_; first
            | refine URun.call tabs2 rfl rfl rfl rfl (k30' ‹_›) rfl rfl ?_ rfl ?_)
          | refine URun.same tabs2 rfl rfl rfl ?_
          | refine URun.same2 tabs2 rfl rfl rfl ?_
          | refine URun.yes tabs2 rfl rfl (by omega) rfl ?_
          | refine URun.no tabs2 rfl rfl (by omega) rfl ?_
          | refine URun.split tabs2 rfl rfl rfl rfl (fun h => ?_) (fun h => ?_))
      | (refine TRun.id ?_; first
          | refine TRun.nil ?_
          | refine TRun.many rfl rfl (by kernel_rfl) ?_ ?_
          | (refine TRun.toCall 30 rfl ?_; first
            | refine TRun.call rfl rfl rfl rfl (k30' ‹_›) rfl rfl ?_ rfl ?_)
          | refine TRun.same rfl rfl rfl ?_
          | refine TRun.same2 rfl rfl rfl ?_
          | refine TRun.yes rfl rfl (by omega) rfl ?_
          | refine TRun.no rfl rfl (by omega) rfl ?_
          | refine TRun.split rfl rfl rfl rfl (fun h => ?_) (fun h => ?_))
      | (refine HoldsT.id ?_; first
          | refine HoldsT.seq ?_
          | refine HoldsT.regionU ?_
          | refine HoldsT.drawn tabs2 ?_
          | refine HoldsT.yes rfl ?_
          | refine HoldsT.no rfl ?_
          | refine HoldsT.cond rfl (fun h => ?_) (fun h => ?_)
          | refine HoldsT.block ?_
          | refine HoldsT.ret ?_
          | refine HoldsT.skip ?_
          | refine HoldsT.exit ?_)
      | (refine okTr_intro ?_; kernel_rfl)
      | exact absurd rfl h
      | refine allProp_C ?_ ?_
      | refine And.intro ?_ ?_
      | omega
      | (show _ < List.length _; omega)
      | exact rowlen_intro rfl
      | exact lenEq_intro rfl
      | exact Nat.le_of_ble_eq_true rfl
      | (simp only [AV.rowlenD, AV.rowlen, AV.ncells, mulSz, toN, Option.map_some, Option.map_none, cutL, List.length_take, List.length_drop, List.length_append, List.length_cons, List.length_nil, List.length_set, Option.some.injEq, Int.reduceToNat] <;> omega))
    · refine ⟨(i + 1, repT tx (i.toNat + 1)), ⟨by simp only; omega, by simp only; omega, by simp only; omega, by simp only; rw [toNat_succ g1]⟩, ?_⟩
      refine WeakT.of ?_ ?_ (by kernel_rfl)
      · repeat' (first | exact TTle.junk _ _ | exact TTle.same _ | refine TTle.node ?_ ?_ | refine TTle.leaf ?_ | exact AVle.junk _ | exact AVle.rfl' rfl | exact AVle.nilS | exact AVle.nilB | exact AVle.rfl' (congrArg AV.str (by rw [g3]; rfl)))
      · repeat' (first | exact OOle.none _ _ | exact OOle.same _ | refine OOle.node ?_ ?_ | exact OOle.leaf _ | exact OOle.gone _)
    all_goals exact FinC.te (y := .bool true) rfl rfl trivial rfl
set_option maxRecDepth 10000 in
set_option maxHeartbeats 8000000 in
theorem p21_true (ln tx : List UInt8) (a n : Int) (hl : ln.length ≤ 140737488355328) (ht : tx.length ≤ 140737488355328) (ha : inK .u16 a) (hn : inK .u8 n) : Pure Try.prog 21 [.str ln, .str tx, .int .u16 a, .int .u8 n, .bool true] (.bool true) := by
  have k31 := p31 [ln, tx] (by simp) (fun n => by
    match n with
    | 0 => exact hl
    | 1 => exact ht
    | n + 2 => simp)
  have ha0 : 0 ≤ a ∧ a ≤ 65535 := ha
  have hn0 : 0 ≤ n ∧ n ≤ 255 := hn
  by_cases hg : (ln.length ≤ 100 ∧ tx.length ≤ 40) ∧ tx ≠ [] ∧ lightL [ln, tx] = true
  · obtain ⟨⟨h1, h2⟩, h3, h4⟩ := hg
    rw [h4] at k31
    have hn4 := tmod_in hn0.1 (show (0 : Int) < 4 by omega)
    have hc := tmod_in ha0.1 (show (0 : Int) < (ln.length : Int) + 1 by omega)
    have hpos : 0 < tx.length := List.length_pos_iff.2 h3
    have hlf : noLF tx = true := by
      simp only [lightL, Bool.and_eq_true, List.all_cons] at h4
      exact h4.2.2.1
    obtain ⟨col, hcol⟩ : ∃ col, col = (a.tmod ((ln.length : Int) + 1)) := ⟨_, rfl⟩
    obtain ⟨m, hm⟩ : ∃ m, m = n.tmod 4 + 1 := ⟨_, rfl⟩
    have hsB : ∀ n : Nat, (([ln] : List (List UInt8)).getD n []).length ≤ 100 := fun n => by
      match n with
      | 0 => exact h1
      | n + 1 => simp
    have htB : ∀ n : Nat, (([tx] : List (List UInt8)).getD n []).length ≤ 40 := fun n => by
      match n with
      | 0 => exact h2
      | n + 1 => simp
    rw [← hcol] at hc
    have hpl : placeL [ln] 0 col = true := decide_eq_true ⟨by omega, by simp, by omega, by show col ≤ (ln.length : Int); omega⟩
    have k79 := p79c_true [ln] [tx] 0 col (by simp) (fun n => by have := hsB n; omega) hpl m (by simp) (by simp) (fun n => by have := htB n; omega) (by omega) (by omega)
    have e1 : midL [ln] 0 1 = [ln] := rfl
    have e2 : ([ln] : List (List UInt8)).getD (0 : Int).toNat [] = ln := rfl
    rw [e1, e2, glueN_one, writeL_one, show (m - 1).toNat + 1 = m.toNat by omega, chC_one] at k79
    have hrl := repT_le h2 m.toNat
    have hrp := repT_pos hpos (n := m.toNat) (by omega)
    have hmay : mayL [tx] m = true := may_iff.2 ⟨⟨by omega, by omega, by simp, by
      have e : sizeL [tx] = tx.length + 1 := by simp [sizeL, sumL]
      rw [e]
      have := Int.mul_le_mul (show m ≤ 4 by omega) (show ((tx.length + 1 : Nat) : Int) ≤ 41 by omega) (by omega) (by omega)
      omega⟩, by simp [hlf]⟩
    have hNB : ∀ (N : List UInt8), N.length ≤ 1000000 → ∀ n : Nat, (([N] : List (List UInt8)).getD n []).length ≤ 1000000000000 := fun N h n => by
      match n with
      | 0 => show N.length ≤ _; omega
      | n + 1 => simp
    obtain ⟨N, hN⟩ : ∃ N, N = ln.take col.toNat ++ repT tx m.toNat ++ ln.drop col.toNat := ⟨_, rfl⟩
    rw [← hN] at k79
    have hNl : N.length = ln.length + (repT tx m.toNat).length := by
      rw [hN]; simp only [List.length_append, List.length_take, List.length_drop]; omega
    have hok : appOk [ln] 0 [ln] [N] = true := decide_eq_true ⟨by omega, by simp, by simp, rfl, by simp⟩
    have hap : appL [ln] 0 [ln] [N] = [N] := by rw [appL, if_pos hok]; rfl
    have k54 := p54w [ln] [tx] 0 col 0 m true (by simp) (by simp) (by simp [sumL]; omega) hpl hmay 0 0 (col + max (((repT tx m.toNat).length : Int) - 1) 0) [ln] [N] (by simp) (by simp) (by rw [hap]; simp) (by rw [hap]; exact hNB N (by omega)) (by rw [hap]; simp) hok k79
    rw [hap] at k54
    have q1 : clL [N] 0 = 0 := rfl
    have q2 : clC [N] 0 (col + max (((repT tx m.toNat).length : Int) - 1) 0) false = col + (repT tx m.toNat).length - 1 := by
      show min (max (col + max (((repT tx m.toNat).length : Int) - 1) 0) 0) (max ((N.length : Int) - 1) 0) = _
      omega
    rw [q1, q2] at k54
    subst hcol hm
    exact p21w_true ln tx N a n _ ha0 hn0 h1 h2 h3 hN rfl k31 k54
  · have hg' : ln.length ≤ 100 → tx.length ≤ 40 → ¬ tx = [] → lightL [ln, tx] = true → False := fun a b c d => hg ⟨⟨a, b⟩, c, d⟩
    refine Pure.ofT tab2_ok Try.func21 rfl rfl [.tmp 10] rfl (by decide) rfl ⟨104, 7, (.node (.node (.node (.node (.node (.node (.node (.leaf (.str ln)) (J 0)) (J 1)) (J 2)) (J 3)) (.node (.node (.node (.node (.leaf (.bool true)) (J 0)) (J 1)) (J 2)) (J 3))) (.node (.node (.node (.node (.node (.leaf (.int .u16 a)) (J 0)) (J 1)) (J 2)) (J 3)) (J 4))) (.node (.node (.node (.node (.node (.node (.leaf (.str tx)) (J 0)) (J 1)) (J 2)) (J 3)) (J 4)) (.node (.node (.node (.node (.node (.leaf (.int .u8 n)) (J 0)) (J 1)) (J 2)) (J 3)) (J 4)))), (OO 7)⟩ (by kernel_rfl) (by kernel_rfl) ?_
    repeat' (first
      | refine allProp_T ?_
      | exact trivial
      | (refine URun.id ?_; first
          | refine URun.nil ?_
          | refine URun.many tabs2 rfl rfl (by kernel_rfl) ?_ ?_
          | (refine URun.toCall 52 rfl ?_; first
            | refine URun.call tabs2 rfl rfl rfl rfl p52 rfl rfl ?_ rfl ?_)
          | (refine URun.toCall 31 rfl ?_; first
            | refine URun.callB tabs2 rfl rfl rfl rfl k31 rfl rfl ?_ rfl rfl (fun h => ?_) (fun h => ?_))
          | refine URun.same tabs2 rfl rfl rfl ?_
          | refine URun.same2 tabs2 rfl rfl rfl ?_
          | refine URun.split tabs2 rfl rfl rfl rfl (fun h => ?_) (fun h => ?_))
      | (refine TRun.id ?_; first
          | refine TRun.nil ?_
          | refine TRun.many rfl rfl (by kernel_rfl) ?_ ?_
          | (refine TRun.toCall 52 rfl ?_; first
            | refine TRun.call rfl rfl rfl rfl p52 rfl rfl ?_ rfl ?_)
          | (refine TRun.toCall 31 rfl ?_; first
            | refine TRun.callB rfl rfl rfl rfl k31 rfl rfl ?_ rfl rfl (fun h => ?_) (fun h => ?_))
          | refine TRun.same rfl rfl rfl ?_
          | refine TRun.same2 rfl rfl rfl ?_
          | refine TRun.split rfl rfl rfl rfl (fun h => ?_) (fun h => ?_))
      | (refine HoldsT.id ?_; first
          | refine HoldsT.seq ?_
          | refine HoldsT.regionU ?_
          | refine HoldsT.drawn tabs2 ?_
          | refine HoldsT.yes rfl ?_
          | refine HoldsT.no rfl ?_
          | refine HoldsT.cond rfl (fun h => ?_) (fun h => ?_)
          | refine HoldsT.block ?_
          | refine HoldsT.ret ?_
          | refine HoldsT.skip ?_
          | refine HoldsT.exit ?_)
      | (refine okTr_intro ?_; kernel_rfl)
      | exact absurd rfl h
      | exact (hg' (by omega) (by omega) ‹_› ‹_›).elim
      | refine allProp_C ?_ ?_
      | refine And.intro ?_ ?_
      | omega
      | (show _ < List.length _; omega)
      | exact rowlen_intro rfl
      | exact lenEq_intro rfl
      | exact Nat.le_of_ble_eq_true rfl
      | (simp only [AV.rowlenD, AV.rowlen, AV.ncells, mulSz, toN, Option.map_some, Option.map_none, cutL, List.length_take, List.length_drop, List.length_append, List.length_cons, List.length_nil, List.length_set, Option.some.injEq, Int.reduceToNat] <;> omega))
    all_goals first | exact FinC.te (y := .bool true) rfl rfl trivial rfl | exact (hg' (by omega) (by omega) ‹_› ‹_›).elim

def sh21false (ln tx all N : List UInt8) (q c m i : Int) : TS := ⟨104, 7, (.node (.node (.node (.node (.node (.node (.node (.leaf (.str ln)) (J 0)) (J 1)) (.node (.node (.leaf (.str all)) (J 0)) (J 1))) (J 3)) (.node (J 3) (.node (.node (.node (.leaf (.int .i64 m)) (J 0)) (J 1)) (J 2)))) (.node (J 4) (.node (J 3) (.node (.node (.node (.leaf (.ptr 14 0)) (J 0)) (J 1)) (J 2))))) (.node (.node (.node (.node (.node (.node (.leaf (.str tx)) (J 0)) (J 1)) (.node (.node (.leaf (.int .i64 i)) (J 0)) (J 1))) (J 3)) (.node (J 3) (.node (.node (.node (.leaf (.ptr 13 0)) (J 0)) (J 1)) (J 2)))) (.node (.node (J 3) (.node (.node (.node (.leaf (.int .i64 c)) (J 0)) (J 1)) (J 2))) (.node (J 3) (.node (.node (.node (.leaf (.bool true)) (J 0)) (J 1)) (J 2)))))), (.node (.node (OO 5) (.node (OO 4) (.node (OO 3) (.node (.node (.node (.leaf (some ⟨true, false, .agg [.int .i64 0, .int .i64 q], 23⟩)) (OO 0)) (OO 1)) (OO 2))))) (.node (.node (OO 4) (.node (OO 3) (.node (.node (.node (.leaf (some ⟨true, false, .agg [.int .i64 0, .slS [ln], .slS [N]], 47⟩)) (OO 0)) (OO 1)) (OO 2)))) (OO 5)))⟩
set_option maxRecDepth 10000 in
set_option maxHeartbeats 8000000 in
theorem p21w_false (ln tx N : List UInt8) (a n q : Int) (ha : 0 ≤ a ∧ a ≤ 65535) (hn : 0 ≤ n ∧ n ≤ 255) (h1 : ln.length ≤ 100) (h2 : tx.length ≤ 40) (h3 : ¬ tx = [])
    (hN : N = cutL ln none (some (min ((a.tmod ((ln.length : Int) + 1)) + 1) (ln.length : Int)).toNat) ++ repT tx (n.tmod 4 + 1).toNat ++ cutL ln (some (min ((a.tmod ((ln.length : Int) + 1)) + 1) (ln.length : Int)).toNat) none) (hq : q = (min ((a.tmod ((ln.length : Int) + 1)) + 1) (ln.length : Int)) + (repT tx (n.tmod 4 + 1).toNat).length - 1)
    (k31 : Pure Try.prog 31 [.slS [ln, tx]] (.bool true))
    (k54 : Pure Try.prog 54 [.slS [ln], .agg [.int .i64 0, .int .i64 (a.tmod ((ln.length : Int) + 1))], .agg [.int .i64 0, .slS [tx]], .bool false, .int .i64 (n.tmod 4 + 1)] (.tup [.agg [.int .i64 0, .slS [ln], .slS [N]], .agg [.int .i64 0, .int .i64 q], .bool true])) :
    Pure Try.prog 21 [.str ln, .str tx, .int .u16 a, .int .u8 n, .bool false] (.bool true) := by
  have hn4 := tmod_in hn.1 (show (0 : Int) < 4 by omega)
  have hc := tmod_in ha.1 (show (0 : Int) < (ln.length : Int) + 1 by omega)
  have k30 : Pure Try.prog 30 [.slS [N], .slS [N]] (.bool true) := by
    have h := p30 [N] [N] (by simp)
    rwa [decide_eq_true rfl] at h
  refine Pure.ofT tab2_ok Try.func21 rfl rfl [.tmp 10] rfl (by decide) rfl ⟨104, 7, (.node (.node (.node (.node (.node (.node (.node (.leaf (.str ln)) (J 0)) (J 1)) (J 2)) (J 3)) (.node (.node (.node (.node (.leaf (.bool false)) (J 0)) (J 1)) (J 2)) (J 3))) (.node (.node (.node (.node (.node (.leaf (.int .u16 a)) (J 0)) (J 1)) (J 2)) (J 3)) (J 4))) (.node (.node (.node (.node (.node (.node (.leaf (.str tx)) (J 0)) (J 1)) (J 2)) (J 3)) (J 4)) (.node (.node (.node (.node (.node (.leaf (.int .u8 n)) (J 0)) (J 1)) (J 2)) (J 3)) (J 4)))), (OO 7)⟩ (by kernel_rfl) (by kernel_rfl) ?_
  repeat' (first
    | refine allProp_T ?_
    | exact trivial
    | (refine URun.id ?_; first
        | refine URun.nil ?_
        | refine URun.many tabs2 rfl rfl (by kernel_rfl) ?_ ?_
        | (refine URun.toCall 52 rfl ?_; first
          | refine URun.call tabs2 rfl rfl rfl rfl p52 rfl rfl ?_ rfl ?_)
        | (refine URun.toCall 31 rfl ?_; first
          | refine URun.call tabs2 rfl rfl rfl rfl k31 rfl rfl ?_ rfl ?_)
        | (refine URun.toCall 54 rfl ?_; first
          | refine URun.call tabs2 rfl rfl rfl rfl k54 rfl rfl ?_ rfl ?_)
        | refine URun.same tabs2 rfl rfl rfl ?_
        | refine URun.same2 tabs2 rfl rfl rfl ?_
        | refine URun.yes tabs2 rfl rfl rfl rfl ?_
        | refine URun.no tabs2 rfl rfl rfl rfl ?_
        | refine URun.yes tabs2 rfl rfl h3 rfl ?_
        | refine URun.no tabs2 rfl rfl h3 rfl ?_
        | refine URun.yes tabs2 rfl rfl (by omega) rfl ?_
        | refine URun.no tabs2 rfl rfl (by omega) rfl ?_
        | refine URun.split tabs2 rfl rfl rfl rfl (fun h => ?_) (fun h => ?_))
    | (refine TRun.id ?_; first
        | refine TRun.nil ?_
        | refine TRun.many rfl rfl (by kernel_rfl) ?_ ?_
        | (refine TRun.toCall 52 rfl ?_; first
          | refine TRun.call rfl rfl rfl rfl p52 rfl rfl ?_ rfl ?_)
        | (refine TRun.toCall 31 rfl ?_; first
          | refine TRun.call rfl rfl rfl rfl k31 rfl rfl ?_ rfl ?_)
        | (refine TRun.toCall 54 rfl ?_; first
          | refine TRun.call rfl rfl rfl rfl k54 rfl rfl ?_ rfl ?_)
        | refine TRun.same rfl rfl rfl ?_
        | refine TRun.same2 rfl rfl rfl ?_
        | refine TRun.yes rfl rfl rfl rfl ?_
        | refine TRun.no rfl rfl rfl rfl ?_
        | refine TRun.yes rfl rfl h3 rfl ?_
        | refine TRun.no rfl rfl h3 rfl ?_
        | refine TRun.yes rfl rfl (by omega) rfl ?_
        | refine TRun.no rfl rfl (by omega) rfl ?_
        | refine TRun.split rfl rfl rfl rfl (fun h => ?_) (fun h => ?_))
    | (refine HoldsT.id ?_; first
        | refine HoldsT.seq ?_
        | refine HoldsT.regionU ?_
        | refine HoldsT.drawn tabs2 ?_
        | refine HoldsT.yes rfl ?_
        | refine HoldsT.no rfl ?_
        | refine HoldsT.cond rfl (fun h => ?_) (fun h => ?_)
        | refine HoldsT.block ?_
        | refine HoldsT.ret ?_
        | refine HoldsT.skip ?_
        | refine HoldsT.exit ?_)
    | (refine okTr_intro ?_; kernel_rfl)
    | exact absurd rfl h
    | exact rowGk rfl rfl rfl
    | refine allProp_C ?_ ?_
    | refine And.intro ?_ ?_
    | omega
    | (show _ < List.length _; omega)
    | exact rowlen_intro rfl
    | exact lenEq_intro rfl
    | exact Nat.le_of_ble_eq_true rfl
    | (simp only [AV.rowlenD, AV.rowlen, AV.ncells, mulSz, toN, Option.map_some, Option.map_none, cutL, List.length_take, List.length_drop, List.length_append, List.length_cons, List.length_nil, List.length_set, Option.some.injEq, Int.reduceToNat] <;> omega))
  refine HoldsT.loop (fun x : Int × List UInt8 => sh21false ln tx x.2 N q (min ((a.tmod ((ln.length : Int) + 1)) + 1) (ln.length : Int)) (n.tmod 4 + 1) x.1) (fun x => (n.tmod 4 + 1 - x.1).toNat) (fun x => 0 ≤ x.1 ∧ x.1 ≤ n.tmod 4 + 1 ∧ x.2 = repT tx x.1.toNat) (0, []) ?_ ?_ (fun _ => by kernel_rfl) ?_
  · refine WeakT.of ?_ ?_ (by kernel_rfl)
    · repeat' (first | exact TTle.junk _ _ | exact TTle.same _ | refine TTle.node ?_ ?_ | refine TTle.leaf ?_ | exact AVle.junk _ | exact AVle.rfl' rfl | exact AVle.nilS | exact AVle.nilB)
    · repeat' (first | exact OOle.none _ _ | exact OOle.same _ | refine OOle.node ?_ ?_ | exact OOle.leaf _ | exact OOle.gone _)
  · exact ⟨by simp, by simp only; omega, rfl⟩
  · intro x hx
    obtain ⟨i, all⟩ := x
    obtain ⟨g1, g2, g3⟩ := hx
    simp only at g1 g2 g3
    have hr := repT_le h2 i.toNat
    rw [← g3] at hr
    have hall : ¬ i < n.tmod 4 + 1 → cutL ln none (some (min ((a.tmod ((ln.length : Int) + 1)) + 1) (ln.length : Int)).toNat) ++ all ++ cutL ln (some (min ((a.tmod ((ln.length : Int) + 1)) + 1) (ln.length : Int)).toNat) none = N := fun h => by
      rw [hN, g3, show i = n.tmod 4 + 1 by omega]
    have hlen : ¬ i < n.tmod 4 + 1 → q = (min ((a.tmod ((ln.length : Int) + 1)) + 1) (ln.length : Int)) + (all.length : Int) - 1 := fun h => by
      rw [hq, g3, show i = n.tmod 4 + 1 by omega]
    have k30' : ¬ i < n.tmod 4 + 1 → Pure Try.prog 30 [.slS [N], .slS [cutL ln none (some (min ((a.tmod ((ln.length : Int) + 1)) + 1) (ln.length : Int)).toNat) ++ all ++ cutL ln (some (min ((a.tmod ((ln.length : Int) + 1)) + 1) (ln.length : Int)).toNat) none]] (.bool true) := fun h => by rw [hall h]; exact k30
    show HoldsT Try.prog _ (sh21false ln tx all N q (min ((a.tmod ((ln.length : Int) + 1)) + 1) (ln.length : Int)) (n.tmod 4 + 1) i) _
    repeat' (first
      | refine allProp_T ?_
      | exact trivial
      | (refine URun.id ?_; first
          | refine URun.nil ?_
          | refine URun.many tabs2 rfl rfl (by kernel_rfl) ?_ ?_
          | (refine URun.toCall 30 rfl ?_; first
            | refine URun.call tabs2 rfl rfl rfl rfl (k30' ‹_›) rfl rfl ?_ rfl ?_)
          | refine URun.same tabs2 rfl rfl rfl ?_
          | refine URun.same2 tabs2 rfl rfl rfl ?_
          | refine URun.yes tabs2 rfl rfl (by omega) rfl ?_
          | refine URun.no tabs2 rfl rfl (by omega) rfl ?_
          | refine URun.split tabs2 rfl rfl rfl rfl (fun h => ?_) (fun h => ?_))
      | (refine TRun.id ?_; first
          | refine TRun.nil ?_
          | refine TRun.many rfl rfl (by kernel_rfl) ?_ ?_
          | (refine TRun.toCall 30 rfl ?_; first
            | refine TRun.call rfl rfl rfl rfl (k30' ‹_›) rfl rfl ?_ rfl ?_)
          | refine TRun.same rfl rfl rfl ?_
          | refine TRun.same2 rfl rfl rfl ?_
          | refine TRun.yes rfl rfl (by omega) rfl ?_
          | refine TRun.no rfl rfl (by omega) rfl ?_
          | refine TRun.split rfl rfl rfl rfl (fun h => ?_) (fun h => ?_))
      | (refine HoldsT.id ?_; first
          | refine HoldsT.seq ?_
          | refine HoldsT.regionU ?_
          | refine HoldsT.drawn tabs2 ?_
          | refine HoldsT.yes rfl ?_
          | refine HoldsT.no rfl ?_
          | refine HoldsT.cond rfl (fun h => ?_) (fun h => ?_)
          | refine HoldsT.block ?_
          | refine HoldsT.ret ?_
          | refine HoldsT.skip ?_
          | refine HoldsT.exit ?_)
      | (refine okTr_intro ?_; kernel_rfl)
      | exact absurd rfl h
      | refine allProp_C ?_ ?_
      | refine And.intro ?_ ?_
      | omega
      | (show _ < List.length _; omega)
      | exact rowlen_intro rfl
      | exact lenEq_intro rfl
      | exact Nat.le_of_ble_eq_true rfl
      | (simp only [AV.rowlenD, AV.rowlen, AV.ncells, mulSz, toN, Option.map_some, Option.map_none, cutL, List.length_take, List.length_drop, List.length_append, List.length_cons, List.length_nil, List.length_set, Option.some.injEq, Int.reduceToNat] <;> omega))
    · refine ⟨(i + 1, repT tx (i.toNat + 1)), ⟨by simp only; omega, by simp only; omega, by simp only; omega, by simp only; rw [toNat_succ g1]⟩, ?_⟩
      refine WeakT.of ?_ ?_ (by kernel_rfl)
      · repeat' (first | exact TTle.junk _ _ | exact TTle.same _ | refine TTle.node ?_ ?_ | refine TTle.leaf ?_ | exact AVle.junk _ | exact AVle.rfl' rfl | exact AVle.nilS | exact AVle.nilB | exact AVle.rfl' (congrArg AV.str (by rw [g3]; rfl)))
      · repeat' (first | exact OOle.none _ _ | exact OOle.same _ | refine OOle.node ?_ ?_ | exact OOle.leaf _ | exact OOle.gone _)
    all_goals exact FinC.te (y := .bool true) rfl rfl trivial rfl
set_option maxRecDepth 10000 in
set_option maxHeartbeats 8000000 in
theorem p21_false (ln tx : List UInt8) (a n : Int) (hl : ln.length ≤ 140737488355328) (ht : tx.length ≤ 140737488355328) (ha : inK .u16 a) (hn : inK .u8 n) : Pure Try.prog 21 [.str ln, .str tx, .int .u16 a, .int .u8 n, .bool false] (.bool true) := by
  have k31 := p31 [ln, tx] (by simp) (fun n => by
    match n with
    | 0 => exact hl
    | 1 => exact ht
    | n + 2 => simp)
  have ha0 : 0 ≤ a ∧ a ≤ 65535 := ha
  have hn0 : 0 ≤ n ∧ n ≤ 255 := hn
  by_cases hg : (ln.length ≤ 100 ∧ tx.length ≤ 40) ∧ tx ≠ [] ∧ lightL [ln, tx] = true
  · obtain ⟨⟨h1, h2⟩, h3, h4⟩ := hg
    rw [h4] at k31
    have hn4 := tmod_in hn0.1 (show (0 : Int) < 4 by omega)
    have hc := tmod_in ha0.1 (show (0 : Int) < (ln.length : Int) + 1 by omega)
    have hpos : 0 < tx.length := List.length_pos_iff.2 h3
    have hlf : noLF tx = true := by
      simp only [lightL, Bool.and_eq_true, List.all_cons] at h4
      exact h4.2.2.1
    obtain ⟨col, hcol⟩ : ∃ col, col = (a.tmod ((ln.length : Int) + 1)) := ⟨_, rfl⟩
    obtain ⟨m, hm⟩ : ∃ m, m = n.tmod 4 + 1 := ⟨_, rfl⟩
    have hsB : ∀ n : Nat, (([ln] : List (List UInt8)).getD n []).length ≤ 100 := fun n => by
      match n with
      | 0 => exact h1
      | n + 1 => simp
    have htB : ∀ n : Nat, (([tx] : List (List UInt8)).getD n []).length ≤ 40 := fun n => by
      match n with
      | 0 => exact h2
      | n + 1 => simp
    rw [← hcol] at hc
    have hpl : placeL [ln] 0 col = true := decide_eq_true ⟨by omega, by simp, by omega, by show col ≤ (ln.length : Int); omega⟩
    have k79 := p79c_false [ln] [tx] 0 col (by simp) (fun n => by have := hsB n; omega) hpl m (by simp) (by simp) (fun n => by have := htB n; omega) (by omega) (by omega)
    have e1 : midL [ln] 0 1 = [ln] := rfl
    have e2 : ([ln] : List (List UInt8)).getD (0 : Int).toNat [] = ln := rfl
    rw [e1, e2, glueN_one, writeL_one, show (m - 1).toNat + 1 = m.toNat by omega, chC_one] at k79
    have hrl := repT_le h2 m.toNat
    have hrp := repT_pos hpos (n := m.toNat) (by omega)
    have hmay : mayL [tx] m = true := may_iff.2 ⟨⟨by omega, by omega, by simp, by
      have e : sizeL [tx] = tx.length + 1 := by simp [sizeL, sumL]
      rw [e]
      have := Int.mul_le_mul (show m ≤ 4 by omega) (show ((tx.length + 1 : Nat) : Int) ≤ 41 by omega) (by omega) (by omega)
      omega⟩, by simp [hlf]⟩
    have hNB : ∀ (N : List UInt8), N.length ≤ 1000000 → ∀ n : Nat, (([N] : List (List UInt8)).getD n []).length ≤ 1000000000000 := fun N h n => by
      match n with
      | 0 => show N.length ≤ _; omega
      | n + 1 => simp
    obtain ⟨N, hN⟩ : ∃ N, N = ln.take (min (col + 1) (ln.length : Int)).toNat ++ repT tx m.toNat ++ ln.drop (min (col + 1) (ln.length : Int)).toNat := ⟨_, rfl⟩
    rw [← hN] at k79
    have hNl : N.length = ln.length + (repT tx m.toNat).length := by
      rw [hN]; simp only [List.length_append, List.length_take, List.length_drop]; omega
    have hok : appOk [ln] 0 [ln] [N] = true := decide_eq_true ⟨by omega, by simp, by simp, rfl, by simp⟩
    have hap : appL [ln] 0 [ln] [N] = [N] := by rw [appL, if_pos hok]; rfl
    have k54 := p54w [ln] [tx] 0 col 0 m false (by simp) (by simp) (by simp [sumL]; omega) hpl hmay 0 0 ((min (col + 1) (ln.length : Int)) + max (((repT tx m.toNat).length : Int) - 1) 0) [ln] [N] (by simp) (by simp) (by rw [hap]; simp) (by rw [hap]; exact hNB N (by omega)) (by rw [hap]; simp) hok k79
    rw [hap] at k54
    have q1 : clL [N] 0 = 0 := rfl
    have q2 : clC [N] 0 ((min (col + 1) (ln.length : Int)) + max (((repT tx m.toNat).length : Int) - 1) 0) false = (min (col + 1) (ln.length : Int)) + (repT tx m.toNat).length - 1 := by
      show min (max ((min (col + 1) (ln.length : Int)) + max (((repT tx m.toNat).length : Int) - 1) 0) 0) (max ((N.length : Int) - 1) 0) = _
      omega
    rw [q1, q2] at k54
    subst hcol hm
    exact p21w_false ln tx N a n _ ha0 hn0 h1 h2 h3 hN rfl k31 k54
  · have hg' : ln.length ≤ 100 → tx.length ≤ 40 → ¬ tx = [] → lightL [ln, tx] = true → False := fun a b c d => hg ⟨⟨a, b⟩, c, d⟩
    refine Pure.ofT tab2_ok Try.func21 rfl rfl [.tmp 10] rfl (by decide) rfl ⟨104, 7, (.node (.node (.node (.node (.node (.node (.node (.leaf (.str ln)) (J 0)) (J 1)) (J 2)) (J 3)) (.node (.node (.node (.node (.leaf (.bool false)) (J 0)) (J 1)) (J 2)) (J 3))) (.node (.node (.node (.node (.node (.leaf (.int .u16 a)) (J 0)) (J 1)) (J 2)) (J 3)) (J 4))) (.node (.node (.node (.node (.node (.node (.leaf (.str tx)) (J 0)) (J 1)) (J 2)) (J 3)) (J 4)) (.node (.node (.node (.node (.node (.leaf (.int .u8 n)) (J 0)) (J 1)) (J 2)) (J 3)) (J 4)))), (OO 7)⟩ (by kernel_rfl) (by kernel_rfl) ?_
    repeat' (first
      | refine allProp_T ?_
      | exact trivial
      | (refine URun.id ?_; first
          | refine URun.nil ?_
          | refine URun.many tabs2 rfl rfl (by kernel_rfl) ?_ ?_
          | (refine URun.toCall 52 rfl ?_; first
            | refine URun.call tabs2 rfl rfl rfl rfl p52 rfl rfl ?_ rfl ?_)
          | (refine URun.toCall 31 rfl ?_; first
            | refine URun.callB tabs2 rfl rfl rfl rfl k31 rfl rfl ?_ rfl rfl (fun h => ?_) (fun h => ?_))
          | refine URun.same tabs2 rfl rfl rfl ?_
          | refine URun.same2 tabs2 rfl rfl rfl ?_
          | refine URun.split tabs2 rfl rfl rfl rfl (fun h => ?_) (fun h => ?_))
      | (refine TRun.id ?_; first
          | refine TRun.nil ?_
          | refine TRun.many rfl rfl (by kernel_rfl) ?_ ?_
          | (refine TRun.toCall 52 rfl ?_; first
            | refine TRun.call rfl rfl rfl rfl p52 rfl rfl ?_ rfl ?_)
          | (refine TRun.toCall 31 rfl ?_; first
            | refine TRun.callB rfl rfl rfl rfl k31 rfl rfl ?_ rfl rfl (fun h => ?_) (fun h => ?_))
          | refine TRun.same rfl rfl rfl ?_
          | refine TRun.same2 rfl rfl rfl ?_
          | refine TRun.split rfl rfl rfl rfl (fun h => ?_) (fun h => ?_))
      | (refine HoldsT.id ?_; first
          | refine HoldsT.seq ?_
          | refine HoldsT.regionU ?_
          | refine HoldsT.drawn tabs2 ?_
          | refine HoldsT.yes rfl ?_
          | refine HoldsT.no rfl ?_
          | refine HoldsT.cond rfl (fun h => ?_) (fun h => ?_)
          | refine HoldsT.block ?_
          | refine HoldsT.ret ?_
          | refine HoldsT.skip ?_
          | refine HoldsT.exit ?_)
      | (refine okTr_intro ?_; kernel_rfl)
      | exact absurd rfl h
      | exact (hg' (by omega) (by omega) ‹_› ‹_›).elim
      | refine allProp_C ?_ ?_
      | refine And.intro ?_ ?_
      | omega
      | (show _ < List.length _; omega)
      | exact rowlen_intro rfl
      | exact lenEq_intro rfl
      | exact Nat.le_of_ble_eq_true rfl
      | (simp only [AV.rowlenD, AV.rowlen, AV.ncells, mulSz, toN, Option.map_some, Option.map_none, cutL, List.length_take, List.length_drop, List.length_append, List.length_cons, List.length_nil, List.length_set, Option.some.injEq, Int.reduceToNat] <;> omega))
    all_goals first | exact FinC.te (y := .bool true) rfl rfl trivial rfl | exact (hg' (by omega) (by omega) ‹_› ‹_›).elim

theorem p21 (ln tx : List UInt8) (a n : Int) (b : Bool) (hl : ln.length ≤ 140737488355328) (ht : tx.length ≤ 140737488355328) (ha : inK .u16 a) (hn : inK .u8 n) : Pure Try.prog 21 [.str ln, .str tx, .int .u16 a, .int .u8 n, .bool b] (.bool true) := by
  cases b with
  | true => exact p21_true ln tx a n hl ht ha hn
  | false => exact p21_false ln tx a n hl ht ha hn

end Go.Proofs.Ytefbgdnobnemkaa.AM
