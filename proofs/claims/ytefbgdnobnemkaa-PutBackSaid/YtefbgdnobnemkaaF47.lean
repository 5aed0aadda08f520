/-
  Bytes that are put.
-/
import Derived.Test.YtefbgdnobnemkaaF46
set_option linter.unusedSimpArgs false
set_option linter.unusedVariables false
set_option linter.unusedSectionVars false
namespace Go.Proofs.Ytefbgdnobnemkaa.AM
open Go Go.RowKit

/-- Lines put behind lines, the first of them behind the last. -/
def glueL (t r : List (List UInt8)) : List (List UInt8) := t.set (t.length - 1) (t.getD (t.length - 1) [] ++ r.getD 0 []) ++ r.drop 1
def glueN (r : List (List UInt8)) : Nat → List (List UInt8)
  | 0 => r
  | n + 1 => glueL (glueN r n) r
theorem glueL_len (t r : List (List UInt8)) : (glueL t r).length = t.length + (r.length - 1) := by simp [glueL]
theorem glueN_len {r : List (List UInt8)} (hr : r.length ≤ 4096) : ∀ k, (glueN r k).length ≤ 4096 * (k + 1)
  | 0 => by simpa [glueN] using hr
  | k + 1 => by have := glueN_len hr k; rw [glueN, glueL_len]; omega
theorem glueN_pos {r : List (List UInt8)} (hr : 0 < r.length) : ∀ k, 0 < (glueN r k).length
  | 0 => hr
  | k + 1 => by have := glueN_pos hr k; rw [glueN, glueL_len]; omega
theorem getD_drop_le {r : List (List UInt8)} {b : Nat} (h : ∀ n : Nat, (r.getD n []).length ≤ b) (k n : Nat) : ((r.drop k).getD n []).length ≤ b := by
  have := h (k + n)
  simpa [List.getD_eq_getElem?_getD] using this
theorem glueN_B {r : List (List UInt8)} (hB : ∀ n : Nat, (r.getD n []).length ≤ 4096) : ∀ k n : Nat, ((glueN r k).getD n []).length ≤ 4096 * (k + 1)
  | 0, n => by simpa [glueN] using hB n
  | k + 1, n => by
    have ih := glueN_B hB k
    have h0 := hB 0
    have h1 := ih ((glueN r k).length - 1)
    rw [glueN, glueL]
    refine getD_append_le (fun n => ?_) (fun n => ?_) n
    · exact getD_set_le (fun n => by have := ih n; omega) (by rw [List.length_append]; omega)
    · have := getD_drop_le hB 1 n; omega

def sh97 (ls rs t : List (List UInt8)) (l c k n i : Int) : TS := ⟨64, 6, (.node (.node (.node (.node (.node (.node (.leaf (.slS ls)) (J 0)) (J 1)) (.node (.node (.leaf (.ptr 8 0)) (J 0)) (J 1))) (.node (.node (J 1) (.node (.leaf (.int .i64 i)) (J 0))) (J 2))) (.node (J 3) (.node (.node (.node (.leaf (.ptr 6 0)) (J 0)) (J 1)) (J 2)))) (.node (.node (.node (J 2) (.node (.node (.leaf (.ptr 9 0)) (J 0)) (J 1))) (.node (.node (.node (.leaf (.ptr 5 0)) (J 0)) (J 1)) (J 2))) (.node (.node (.node (J 1) (.node (.leaf (.int .i64 (n - 1))) (J 0))) (.node (.node (.leaf (.own 17 t.length)) (J 0)) (J 1))) (J 3)))), (.node (.node (.node (.node (OO 2) (.node (.node (.leaf (some ⟨true, false, .agg [.int .i64 0, .nilsl, .nilsl], 47⟩)) (OO 0)) (OO 1))) (OO 3)) (.node (OO 3) (.node (.node (.node (.leaf (some ⟨true, false, .agg [.int .i64 k, .slS rs], 71⟩)) (OO 0)) (OO 1)) (OO 2)))) (.node (.node (.node (.node (OO 1) (.node (.leaf (some ⟨true, true, .slS t, 9⟩)) (OO 0))) (.node (.node (.leaf (some ⟨true, false, .agg [.int .i64 0, .int .i64 0], 23⟩)) (OO 0)) (OO 1))) (.node (.node (.node (.leaf (some ⟨true, false, .agg [.int .i64 l, .int .i64 c], 23⟩)) (OO 0)) (OO 1)) (OO 2))) (OO 4)))⟩
/-- Where the cursor is behind lines that are put. -/
def chC (c : Int) (t : List (List UInt8)) : Int := if (t.length : Int) = 1 then c + max (((t.getD 0 []).length : Int) - 1) 0 else c
set_option maxRecDepth 10000 in
set_option maxHeartbeats 8000000 in
theorem p97 (ls rs : List (List UInt8)) (l c k n : Int) (hL : ls.length ≤ 1000000000) (hB : ∀ n : Nat, (ls.getD n []).length ≤ 1000000000000) (hp : placeL ls l c = true) (hr : rs.length ≤ 4096) (h0 : 0 < rs.length) (hR : ∀ n : Nat, (rs.getD n []).length ≤ 4096) (hn : 1 ≤ n) (hn2 : n ≤ 9999) :
    Pure Try.prog 97 [.slS ls, .agg [.int .i64 l, .int .i64 c], .agg [.int .i64 k, .slS rs], .int .i64 n] (TyR.av ⟨true, l, midL ls l 1, writeL (ls.getD l.toNat []) c (glueN rs (n - 1).toNat), l, chC c (glueN rs (n - 1).toNat)⟩) := by
  obtain ⟨hq1, hq2, hq3, hq4⟩ := of_decide_eq_true hp
  have hb := hB l.toNat
  have hr0 := hR 0
  have o66 := own66 rs (by omega)
  refine Pure.ofT tab2_ok Try.func97 rfl rfl [.cell 8 47, .cell 9 23, .tmp 10] rfl (by decide) rfl ⟨64, 6, (.node (.node (.node (.node (.node (.node (.leaf (.slS ls)) (J 0)) (J 1)) (J 2)) (J 3)) (.node (.node (.node (.node (.leaf (.agg [.int .i64 k, .slS rs])) (J 0)) (J 1)) (J 2)) (J 3))) (.node (.node (.node (.node (.node (.leaf (.agg [.int .i64 l, .int .i64 c])) (J 0)) (J 1)) (J 2)) (J 3)) (.node (.node (.node (.node (.leaf (.int .i64 n)) (J 0)) (J 1)) (J 2)) (J 3)))), (OO 6)⟩ (by kernel_rfl) (by kernel_rfl) ?_
  repeat' (first
    | refine allProp_T ?_
    | exact trivial
    | (refine URun.id ?_; first
        | refine URun.nil ?_
        | refine URun.many tabs2 rfl rfl (by kernel_rfl) ?_ ?_
        | (refine URun.toCall 66 rfl ?_; refine URun.own rfl rfl rfl rfl o66 rfl rfl ?_ rfl (by kernel_rfl) rfl rfl ?_)
        | refine URun.same tabs2 rfl rfl rfl ?_
        | refine URun.same2 tabs2 rfl rfl rfl ?_
        | refine URun.split tabs2 rfl rfl rfl rfl (fun h => ?_) (fun h => ?_))
    | (refine TRun.id ?_; first
        | refine TRun.nil ?_
        | refine TRun.many rfl rfl (by kernel_rfl) ?_ ?_
        | refine TRun.same rfl rfl rfl ?_
        | refine TRun.same2 rfl rfl rfl ?_
        | refine TRun.split rfl rfl rfl rfl (fun h => ?_) (fun h => ?_))
    | (refine HoldsT.id ?_; first
        | refine HoldsT.seq ?_
        | refine HoldsT.regionU ?_
        | refine HoldsT.drawn tabs2 ?_
        | refine HoldsT.yes rfl ?_
        | refine HoldsT.no rfl ?_
        | refine HoldsT.cond rfl (fun h => ?_) (fun h => ?_)
        | refine HoldsT.block ?_
        | refine HoldsT.ret ?_
        | refine HoldsT.skip ?_
        | refine HoldsT.exit ?_)
    | (refine okTr_intro ?_; kernel_rfl)
    | exact absurd rfl h
    | refine allProp_C ?_ ?_
    | refine And.intro ?_ ?_
    | omega
    | (show _ < List.length _; omega)
    | exact rowlen_intro rfl
    | exact lenEq_intro rfl
    | exact Nat.le_of_ble_eq_true rfl
    | (simp only [AV.rowlenD, AV.rowlen, AV.ncells, mulSz, toN, Option.map_some, Option.map_none, cutL, List.length_take, List.length_drop, List.length_append, List.length_cons, List.length_nil, List.length_set, Option.some.injEq, Int.reduceToNat] <;> omega))
  refine HoldsT.loop (fun x : Int × List (List UInt8) => sh97 ls rs x.2 l c k n x.1) (fun x => (n - 1 - x.1).toNat) (fun x => 0 ≤ x.1 ∧ x.1 ≤ n - 1 ∧ x.2 = glueN rs x.1.toNat) (0, rs) ?_ ?_ (fun _ => by kernel_rfl) ?_
  · refine WeakT.of ?_ ?_ (by kernel_rfl)
    · repeat' (first | exact TTle.junk _ _ | exact TTle.same _ | refine TTle.node ?_ ?_ | refine TTle.leaf ?_ | exact AVle.junk _ | exact AVle.rfl' rfl | exact AVle.nilS | exact AVle.nilB)
    · repeat' (first | exact OOle.none _ _ | exact OOle.same _ | refine OOle.node ?_ ?_ | exact OOle.leaf _ | exact OOle.gone _)
  · exact ⟨by simp, by simp only; omega, rfl⟩
  · intro x hx
    obtain ⟨i, t⟩ := x
    obtain ⟨h1, h2, h3⟩ := hx
    simp only at h1 h2 h3
    have hl := glueN_len hr i.toNat
    have hp0 := glueN_pos h0 i.toNat
    have hT := glueN_B hR i.toNat
    rw [← h3] at hl hp0 hT
    have ht1 := hT ((t.length : Int) - 1).toNat
    have ht0 := hT 0
    have hd : (cutL rs (some 1) none).length = rs.length - 1 := by simp [cutL]
    have k60 := p60 ls t l c (by omega) (by omega) (fun n => by have := hB n; omega) (fun n => by have := hT n; omega) hp (by omega)
    show HoldsT Try.prog _ (sh97 ls rs t l c k n i) _
    repeat' (first
      | refine allProp_T ?_
      | exact trivial
      | (refine URun.id ?_; first
          | refine URun.nil ?_
          | refine URun.many tabs2 rfl rfl (by kernel_rfl) ?_ ?_
          | (refine URun.toCall 60 rfl ?_; first
            | refine URun.call tabs2 rfl rfl rfl rfl k60 rfl rfl ?_ rfl ?_)
          | refine URun.same tabs2 rfl rfl rfl ?_
          | refine URun.same2 tabs2 rfl rfl rfl ?_
          | refine URun.split tabs2 rfl rfl rfl rfl (fun h => ?_) (fun h => ?_))
      | (refine TRun.id ?_; first
          | refine TRun.nil ?_
          | refine TRun.many rfl rfl (by kernel_rfl) ?_ ?_
          | (refine TRun.toCall 60 rfl ?_; first
            | refine TRun.call rfl rfl rfl rfl k60 rfl rfl ?_ rfl ?_)
          | refine TRun.same rfl rfl rfl ?_
          | refine TRun.same2 rfl rfl rfl ?_
          | refine TRun.split rfl rfl rfl rfl (fun h => ?_) (fun h => ?_))
      | (refine HoldsT.id ?_; first
          | refine HoldsT.seq ?_
          | refine HoldsT.regionU ?_
          | refine HoldsT.drawn tabs2 ?_
          | refine HoldsT.yes rfl ?_
          | refine HoldsT.no rfl ?_
          | refine HoldsT.cond rfl (fun h => ?_) (fun h => ?_)
          | refine HoldsT.block ?_
          | refine HoldsT.ret ?_
          | refine HoldsT.skip ?_
          | refine HoldsT.exit ?_)
      | (refine okTr_intro ?_; kernel_rfl)
      | exact absurd rfl h
      | refine allProp_C ?_ ?_
      | refine And.intro ?_ ?_
      | omega
      | (show _ < List.length _; omega)
      | exact rowlen_intro rfl
      | exact lenEq_intro rfl
      | exact Nat.le_of_ble_eq_true rfl
      | (simp only [AV.rowlenD, AV.rowlen, AV.ncells, mulSz, toN, Option.map_some, Option.map_none, cutL, List.length_take, List.length_drop, List.length_append, List.length_cons, List.length_nil, List.length_set, Option.some.injEq, Int.reduceToNat] <;> omega))
    · have hset : t.set ((t.length : Int) - 1).toNat (t.getD ((t.length : Int) - 1).toNat [] ++ rs.getD 0 []) ++ cutL rs (some 1) none = glueL t rs := by
        unfold glueL
        rw [show ((t.length : Int) - 1).toNat = t.length - 1 by omega]; rfl
      have hlen : t.length + (cutL rs (some 1) none).length = (glueL t rs).length := by rw [glueL_len, hd]
      refine ⟨(i + 1, glueL t rs), ⟨by simp only at *; omega, by simp only at *; omega, by simp only at *; omega, ?_⟩, ?_⟩
      · simp only
        rw [toNat_succ h1, glueN, ← h3]
      · refine WeakT.of ?_ ?_ (by kernel_rfl)
        · repeat' (first | exact TTle.junk _ _ | exact TTle.same _ | refine TTle.node ?_ ?_ | refine TTle.leaf ?_ | exact AVle.junk _ | exact AVle.rfl' rfl | exact AVle.rfl' (congrArg (AV.own 17) hlen))
        · repeat' (first | exact OOle.none _ _ | exact OOle.same _ | refine OOle.node ?_ ?_ | exact OOle.leaf _ | exact OOle.eq (congrArg (fun z => some (Obj.mk true true (.slS z) 9)) hset) | exact OOle.gone _)
    all_goals
      have e : t = glueN rs (n - 1).toNat := by rw [h3, show i = n - 1 by omega]
      rw [← e]
      refine FinC.t (y := .tup [.agg [.int .i64 _, .slS _, .slS _], .agg [.int .i64 _, .int .i64 _], .bool _]) rfl rfl ⟨⟨trivial, trivial, trivial, trivial⟩, ⟨trivial, trivial, trivial⟩, trivial, trivial⟩ (AVle.rfl' ?_)
      unfold chC
      first | (rw [if_pos ‹_›]; rfl) | (rw [if_neg ‹_›]; rfl)

end Go.Proofs.Ytefbgdnobnemkaa.AM
