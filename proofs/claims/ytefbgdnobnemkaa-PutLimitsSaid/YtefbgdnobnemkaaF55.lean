/-
  Just how much may be put at once: the law.
-/
import Derived.Test.YtefbgdnobnemkaaF52
set_option linter.unusedSimpArgs false
set_option linter.unusedVariables false
set_option linter.unusedSectionVars false
namespace Go.Proofs.Ytefbgdnobnemkaa.AM
open Go Go.RowKit

theorem repT_len (t : List UInt8) : ∀ n, (repT t n).length = n * t.length
  | 0 => by simp [repT]
  | n + 1 => by rw [repT, List.length_append, repT_len t n, Nat.succ_mul]
theorem tmod2_in (e : Int) : -1 ≤ e.tmod 2 ∧ e.tmod 2 ≤ 1 := by
  have h1 := Int.tmod_lt_of_pos e (show (0 : Int) < 2 by omega)
  have h2 := Int.lt_tmod_of_pos e (show (0 : Int) < 2 by omega)
  omega
set_option maxRecDepth 10000 in
set_option maxHeartbeats 8000000 in
theorem p18w (z n e ql qc at' : Int) (ok : Bool) (old new : List (List UInt8)) (hz : 0 ≤ z ∧ z ≤ 65535) (hn : 0 ≤ n ∧ n ≤ 255) (he : -128 ≤ e ∧ e ≤ 127) (hs : 0 ≤ (Int.tdiv 4096 (n.tmod 40 + 1) - 1 + e.tmod 2))
    (hm1 : 0 ≤ (n.tmod 40 + 1) * ((Int.tdiv 4096 (n.tmod 40 + 1) - 1 + e.tmod 2) + 1) ∧ (n.tmod 40 + 1) * ((Int.tdiv 4096 (n.tmod 40 + 1) - 1 + e.tmod 2) + 1) ≤ 1000000) (hm2 : 0 ≤ (n.tmod 40 + 1) * (Int.tdiv 4096 (n.tmod 40 + 1) - 1 + e.tmod 2) ∧ (n.tmod 40 + 1) * (Int.tdiv 4096 (n.tmod 40 + 1) - 1 + e.tmod 2) ≤ 1000000)
    (hok : ok = true → (n.tmod 40 + 1) * ((Int.tdiv 4096 (n.tmod 40 + 1) - 1 + e.tmod 2) + 1) ≤ 4096 ∧ new.length = 1 ∧ ((new.getD 0 []).length : Int) = 2 + (n.tmod 40 + 1) * (Int.tdiv 4096 (n.tmod 40 + 1) - 1 + e.tmod 2)) (hno : ok = false → ¬ (n.tmod 40 + 1) * ((Int.tdiv 4096 (n.tmod 40 + 1) - 1 + e.tmod 2) + 1) ≤ 4096)
    (k54 : Pure Try.prog 54 [.slS [[97, 98]], .agg [.int .i64 0, .int .i64 0], .agg [.int .i64 0, .slS [List.replicate ((Int.tdiv 4096 (n.tmod 40 + 1) - 1 + e.tmod 2)).toNat 0]], .bool false, .int .i64 (n.tmod 40 + 1)] (.tup [.agg [.int .i64 at', .slS old, .slS new], .agg [.int .i64 ql, .int .i64 qc], .bool ok])) :
    Pure Try.prog 18 [.int .u16 z, .int .u8 n, .int .i8 e] (.bool true) := by
  have hk := tmod_in hn.1 (show (0 : Int) < 40 by omega)
  have hd := tdiv_in (a := 4096) (n := (n.tmod 40 + 1)) (by omega) (by omega)
  have he2 := tmod2_in e
  cases ok with
  | true =>
    obtain ⟨h1, h2, h3⟩ := hok rfl
    refine Pure.ofT tab2_ok Try.func18 rfl rfl [.tmp 6] rfl (by decide) rfl ⟨74, 7, (.node (.node (.node (.node (.node (.node (.node (.leaf (.int .u16 z)) (J 0)) (J 1)) (J 2)) (J 3)) (J 4)) (.node (.node (.node (.node (.node (.leaf (.int .i8 e)) (J 0)) (J 1)) (J 2)) (J 3)) (J 4))) (.node (.node (.node (.node (.node (.node (.leaf (.int .u8 n)) (J 0)) (J 1)) (J 2)) (J 3)) (J 4)) (J 5))), (OO 7)⟩ (by kernel_rfl) (by kernel_rfl) ?_
    repeat' (first
      | refine allProp_T ?_
      | exact trivial
      | (refine URun.id ?_; first
          | refine URun.nil ?_
          | refine URun.many tabs2 rfl rfl (by kernel_rfl) ?_ ?_
          | (refine URun.toCall 52 rfl ?_; first
            | refine URun.call tabs2 rfl rfl rfl rfl p52 rfl rfl ?_ rfl ?_)
          | (refine URun.toCall 54 rfl ?_; first
            | refine URun.call tabs2 rfl rfl rfl rfl k54 rfl rfl ?_ rfl ?_)
          | refine URun.same tabs2 rfl rfl rfl ?_
          | refine URun.same2 tabs2 rfl rfl rfl ?_
          | refine URun.yes tabs2 rfl rfl rfl rfl ?_
          | refine URun.no tabs2 rfl rfl rfl rfl ?_
          | refine URun.yes tabs2 rfl rfl h1 rfl ?_
          | refine URun.no tabs2 rfl rfl h1 rfl ?_
          | refine URun.yes tabs2 rfl rfl h3 rfl ?_
          | refine URun.no tabs2 rfl rfl h3 rfl ?_
          | refine URun.yes tabs2 rfl rfl (by omega) rfl ?_
          | refine URun.no tabs2 rfl rfl (by omega) rfl ?_
          | refine URun.split tabs2 rfl rfl rfl rfl (fun h => ?_) (fun h => ?_))
      | (refine TRun.id ?_; first
          | refine TRun.nil ?_
          | refine TRun.many rfl rfl (by kernel_rfl) ?_ ?_
          | (refine TRun.toCall 52 rfl ?_; first
            | refine TRun.call rfl rfl rfl rfl p52 rfl rfl ?_ rfl ?_)
          | (refine TRun.toCall 54 rfl ?_; first
            | refine TRun.call rfl rfl rfl rfl k54 rfl rfl ?_ rfl ?_)
          | refine TRun.same rfl rfl rfl ?_
          | refine TRun.same2 rfl rfl rfl ?_
          | refine TRun.yes rfl rfl rfl rfl ?_
          | refine TRun.no rfl rfl rfl rfl ?_
          | refine TRun.yes rfl rfl h1 rfl ?_
          | refine TRun.no rfl rfl h1 rfl ?_
          | refine TRun.yes rfl rfl h3 rfl ?_
          | refine TRun.no rfl rfl h3 rfl ?_
          | refine TRun.yes rfl rfl (by omega) rfl ?_
          | refine TRun.no rfl rfl (by omega) rfl ?_
          | refine TRun.split rfl rfl rfl rfl (fun h => ?_) (fun h => ?_))
      | (refine HoldsT.id ?_; first
          | refine HoldsT.seq ?_
          | refine HoldsT.regionU ?_
          | refine HoldsT.drawn tabs2 ?_
          | refine HoldsT.yes rfl ?_
          | refine HoldsT.no rfl ?_
          | refine HoldsT.cond rfl (fun h => ?_) (fun h => ?_)
          | refine HoldsT.block ?_
          | refine HoldsT.ret ?_
          | refine HoldsT.skip ?_
          | refine HoldsT.exit ?_)
      | (refine okTr_intro ?_; kernel_rfl)
      | exact absurd rfl h
      | exact List.length_replicate
      | refine allProp_C ?_ ?_
      | refine And.intro ?_ ?_
      | omega
      | (show _ < List.length _; omega)
      | exact rowlen_intro rfl
      | exact lenEq_intro rfl
      | exact Nat.le_of_ble_eq_true rfl
      | (simp only [AV.rowlenD, AV.rowlen, AV.ncells, mulSz, toN, Option.map_some, Option.map_none, cutL, List.length_take, List.length_drop, List.length_append, List.length_cons, List.length_nil, List.length_set, Option.some.injEq, Int.reduceToNat] <;> omega))
    all_goals exact FinC.te (y := .bool true) rfl rfl trivial rfl
  | false =>
    have h1 := hno rfl
    refine Pure.ofT tab2_ok Try.func18 rfl rfl [.tmp 6] rfl (by decide) rfl ⟨74, 7, (.node (.node (.node (.node (.node (.node (.node (.leaf (.int .u16 z)) (J 0)) (J 1)) (J 2)) (J 3)) (J 4)) (.node (.node (.node (.node (.node (.leaf (.int .i8 e)) (J 0)) (J 1)) (J 2)) (J 3)) (J 4))) (.node (.node (.node (.node (.node (.node (.leaf (.int .u8 n)) (J 0)) (J 1)) (J 2)) (J 3)) (J 4)) (J 5))), (OO 7)⟩ (by kernel_rfl) (by kernel_rfl) ?_
    repeat' (first
      | refine allProp_T ?_
      | exact trivial
      | (refine URun.id ?_; first
          | refine URun.nil ?_
          | refine URun.many tabs2 rfl rfl (by kernel_rfl) ?_ ?_
          | (refine URun.toCall 52 rfl ?_; first
            | refine URun.call tabs2 rfl rfl rfl rfl p52 rfl rfl ?_ rfl ?_)
          | (refine URun.toCall 54 rfl ?_; first
            | refine URun.call tabs2 rfl rfl rfl rfl k54 rfl rfl ?_ rfl ?_)
          | refine URun.same tabs2 rfl rfl rfl ?_
          | refine URun.same2 tabs2 rfl rfl rfl ?_
          | refine URun.yes tabs2 rfl rfl rfl rfl ?_
          | refine URun.no tabs2 rfl rfl rfl rfl ?_
          | refine URun.yes tabs2 rfl rfl h1 rfl ?_
          | refine URun.no tabs2 rfl rfl h1 rfl ?_
          | refine URun.yes tabs2 rfl rfl (by omega) rfl ?_
          | refine URun.no tabs2 rfl rfl (by omega) rfl ?_
          | refine URun.split tabs2 rfl rfl rfl rfl (fun h => ?_) (fun h => ?_))
      | (refine TRun.id ?_; first
          | refine TRun.nil ?_
          | refine TRun.many rfl rfl (by kernel_rfl) ?_ ?_
          | (refine TRun.toCall 52 rfl ?_; first
            | refine TRun.call rfl rfl rfl rfl p52 rfl rfl ?_ rfl ?_)
          | (refine TRun.toCall 54 rfl ?_; first
            | refine TRun.call rfl rfl rfl rfl k54 rfl rfl ?_ rfl ?_)
          | refine TRun.same rfl rfl rfl ?_
          | refine TRun.same2 rfl rfl rfl ?_
          | refine TRun.yes rfl rfl rfl rfl ?_
          | refine TRun.no rfl rfl rfl rfl ?_
          | refine TRun.yes rfl rfl h1 rfl ?_
          | refine TRun.no rfl rfl h1 rfl ?_
          | refine TRun.yes rfl rfl (by omega) rfl ?_
          | refine TRun.no rfl rfl (by omega) rfl ?_
          | refine TRun.split rfl rfl rfl rfl (fun h => ?_) (fun h => ?_))
      | (refine HoldsT.id ?_; first
          | refine HoldsT.seq ?_
          | refine HoldsT.regionU ?_
          | refine HoldsT.drawn tabs2 ?_
          | refine HoldsT.yes rfl ?_
          | refine HoldsT.no rfl ?_
          | refine HoldsT.cond rfl (fun h => ?_) (fun h => ?_)
          | refine HoldsT.block ?_
          | refine HoldsT.ret ?_
          | refine HoldsT.skip ?_
          | refine HoldsT.exit ?_)
      | (refine okTr_intro ?_; kernel_rfl)
      | exact absurd rfl h
      | exact List.length_replicate
      | refine allProp_C ?_ ?_
      | refine And.intro ?_ ?_
      | omega
      | (show _ < List.length _; omega)
      | exact rowlen_intro rfl
      | exact lenEq_intro rfl
      | exact Nat.le_of_ble_eq_true rfl
      | (simp only [AV.rowlenD, AV.rowlen, AV.ncells, mulSz, toN, Option.map_some, Option.map_none, cutL, List.length_take, List.length_drop, List.length_append, List.length_cons, List.length_nil, List.length_set, Option.some.injEq, Int.reduceToNat] <;> omega))
    all_goals exact FinC.te (y := .bool true) rfl rfl trivial rfl
set_option maxRecDepth 10000 in
set_option maxHeartbeats 8000000 in
theorem p18n (z n e : Int) (hz : 0 ≤ z ∧ z ≤ 65535) (hn : 0 ≤ n ∧ n ≤ 255) (he : -128 ≤ e ∧ e ≤ 127) (hs : ¬ 0 ≤ (Int.tdiv 4096 (n.tmod 40 + 1) - 1 + e.tmod 2)) : Pure Try.prog 18 [.int .u16 z, .int .u8 n, .int .i8 e] (.bool true) := by
  have hk := tmod_in hn.1 (show (0 : Int) < 40 by omega)
  have hd := tdiv_in (a := 4096) (n := (n.tmod 40 + 1)) (by omega) (by omega)
  have he2 := tmod2_in e
  refine Pure.ofT tab2_ok Try.func18 rfl rfl [.tmp 6] rfl (by decide) rfl ⟨74, 7, (.node (.node (.node (.node (.node (.node (.node (.leaf (.int .u16 z)) (J 0)) (J 1)) (J 2)) (J 3)) (J 4)) (.node (.node (.node (.node (.node (.leaf (.int .i8 e)) (J 0)) (J 1)) (J 2)) (J 3)) (J 4))) (.node (.node (.node (.node (.node (.node (.leaf (.int .u8 n)) (J 0)) (J 1)) (J 2)) (J 3)) (J 4)) (J 5))), (OO 7)⟩ (by kernel_rfl) (by kernel_rfl) ?_
  repeat' (first
    | refine allProp_T ?_
    | exact trivial
    | (refine URun.id ?_; first
        | refine URun.nil ?_
        | refine URun.many tabs2 rfl rfl (by kernel_rfl) ?_ ?_
        | (refine URun.toCall 52 rfl ?_; first
          | refine URun.call tabs2 rfl rfl rfl rfl p52 rfl rfl ?_ rfl ?_)
        | refine URun.same tabs2 rfl rfl rfl ?_
        | refine URun.same2 tabs2 rfl rfl rfl ?_
        | refine URun.yes tabs2 rfl rfl (by omega) rfl ?_
        | refine URun.no tabs2 rfl rfl (by omega) rfl ?_
        | refine URun.split tabs2 rfl rfl rfl rfl (fun h => ?_) (fun h => ?_))
    | (refine TRun.id ?_; first
        | refine TRun.nil ?_
        | refine TRun.many rfl rfl (by kernel_rfl) ?_ ?_
        | (refine TRun.toCall 52 rfl ?_; first
          | refine TRun.call rfl rfl rfl rfl p52 rfl rfl ?_ rfl ?_)
        | refine TRun.same rfl rfl rfl ?_
        | refine TRun.same2 rfl rfl rfl ?_
        | refine TRun.yes rfl rfl (by omega) rfl ?_
        | refine TRun.no rfl rfl (by omega) rfl ?_
        | refine TRun.split rfl rfl rfl rfl (fun h => ?_) (fun h => ?_))
    | (refine HoldsT.id ?_; first
        | refine HoldsT.seq ?_
        | refine HoldsT.regionU ?_
        | refine HoldsT.drawn tabs2 ?_
        | refine HoldsT.yes rfl ?_
        | refine HoldsT.no rfl ?_
        | refine HoldsT.cond rfl (fun h => ?_) (fun h => ?_)
        | refine HoldsT.block ?_
        | refine HoldsT.ret ?_
        | refine HoldsT.skip ?_
        | refine HoldsT.exit ?_)
    | (refine okTr_intro ?_; kernel_rfl)
    | exact absurd rfl h
    | refine allProp_C ?_ ?_
    | refine And.intro ?_ ?_
    | omega
    | (show _ < List.length _; omega)
    | exact rowlen_intro rfl
    | exact lenEq_intro rfl
    | exact Nat.le_of_ble_eq_true rfl
    | (simp only [AV.rowlenD, AV.rowlen, AV.ncells, mulSz, toN, Option.map_some, Option.map_none, cutL, List.length_take, List.length_drop, List.length_append, List.length_cons, List.length_nil, List.length_set, Option.some.injEq, Int.reduceToNat] <;> omega))
  all_goals exact FinC.te (y := .bool true) rfl rfl trivial rfl
set_option maxRecDepth 10000 in
set_option maxHeartbeats 8000000 in
theorem p18 (z n e : Int) (hz : inK .u16 z) (hn : inK .u8 n) (he : inK .i8 e) : Pure Try.prog 18 [.int .u16 z, .int .u8 n, .int .i8 e] (.bool true) := by
  have hz0 : 0 ≤ z ∧ z ≤ 65535 := hz
  have hn0 : 0 ≤ n ∧ n ≤ 255 := hn
  have he0 : -128 ≤ e ∧ e ≤ 127 := he
  by_cases hs : 0 ≤ (Int.tdiv 4096 (n.tmod 40 + 1) - 1 + e.tmod 2)
  · have hk := tmod_in hn0.1 (show (0 : Int) < 40 by omega)
    have hd := tdiv_in (a := 4096) (n := (n.tmod 40 + 1)) (by omega) (by omega)
    have he2 := tmod2_in e
    obtain ⟨k, hkk⟩ : ∃ k, k = (n.tmod 40 + 1) := ⟨_, rfl⟩
    obtain ⟨s, hss⟩ : ∃ s, s = (Int.tdiv 4096 (n.tmod 40 + 1) - 1 + e.tmod 2) := ⟨_, rfl⟩
    have hk1 : 1 ≤ k ∧ k ≤ 40 := by omega
    have hs1 : 0 ≤ s ∧ s ≤ 4096 := by omega
    have m1 : 0 ≤ k * (s + 1) ∧ k * (s + 1) ≤ 40 * 4097 := ⟨Int.mul_nonneg (by omega) (by omega), Int.mul_le_mul (by omega) (by omega) (by omega) (by omega)⟩
    have m2 : 0 ≤ k * s ∧ k * s ≤ 40 * 4096 := ⟨Int.mul_nonneg (by omega) (by omega), Int.mul_le_mul (by omega) (by omega) (by omega) (by omega)⟩
    have m3 : k * (s + 1) = k * s + k := by rw [Int.mul_add, Int.mul_one]
    have hsz : sizeL [List.replicate s.toNat 0] = s.toNat + 1 := by simp [sizeL, sumL]
    have hlf : noLF (List.replicate s.toNat 0) = true := by
      unfold noLF
      rw [List.all_eq_true]
      intro x hx
      rw [List.eq_of_mem_replicate hx]
      rfl
    have hlen : (repT (List.replicate s.toNat 0) k.toNat).length = k.toNat * s.toNat := by rw [repT_len, List.length_replicate]
    have hlen2 : ((repT (List.replicate s.toNat 0) k.toNat).length : Int) = k * s := by
      rw [hlen, Int.natCast_mul, show (k.toNat : Int) = k by omega, show (s.toNat : Int) = s by omega]
    by_cases hfit : k * (s + 1) ≤ 4096
    · have hmay : mayL [List.replicate s.toNat 0] k = true := may_iff.2 ⟨⟨by omega, by omega, by simp, by
        rw [hsz, show ((s.toNat + 1 : Nat) : Int) = s + 1 by omega]; exact hfit⟩, by simp [hlf]⟩
      have hB1 : ∀ n : Nat, (([[97, 98]] : List (List UInt8)).getD n []).length ≤ 2 := fun n => by
        match n with
        | 0 => decide
        | n + 1 => simp
      have hB2 : ∀ n : Nat, (([List.replicate s.toNat (0 : UInt8)] : List (List UInt8)).getD n []).length ≤ 4096 := fun n => by
        match n with
        | 0 => show (List.replicate s.toNat (0 : UInt8)).length ≤ 4096; rw [List.length_replicate]; omega
        | n + 1 => simp
      have k79 := p79c_false [[97, 98]] [List.replicate s.toNat 0] 0 0 (by decide) (fun n => by have := hB1 n; omega) (by decide) k (by simp) (by simp) hB2 (by omega) (by omega)
      have e1 : midL [[97, 98]] 0 1 = [[97, 98]] := rfl
      have e2 : ([[97, 98]] : List (List UInt8)).getD (0 : Int).toNat [] = [97, 98] := rfl
      rw [e1, e2, glueN_one, writeL_one, show (k - 1).toNat + 1 = k.toNat by omega] at k79
      obtain ⟨N, hN⟩ : ∃ N, N = ([97, 98] : List UInt8).take (min (0 + 1) (([97, 98] : List UInt8).length : Int)).toNat ++ repT (List.replicate s.toNat 0) k.toNat ++ ([97, 98] : List UInt8).drop (min (0 + 1) (([97, 98] : List UInt8).length : Int)).toNat := ⟨_, rfl⟩
      have hNl : (N.length : Int) = 2 + k * s := by
        rw [hN, List.length_append, List.length_append]
        show ((1 + (repT (List.replicate s.toNat 0) k.toNat).length + 1 : Nat) : Int) = _
        omega
      rw [← hN] at k79
      have hNB : ∀ n : Nat, (([N] : List (List UInt8)).getD n []).length ≤ 1000000000000 := fun n => by
        match n with
        | 0 => show N.length ≤ _; omega
        | n + 1 => simp
      have hok : appOk [[97, 98]] 0 [[97, 98]] [N] = true := decide_eq_true ⟨by omega, by simp, by simp, rfl, by simp⟩
      have hap : appL [[97, 98]] 0 [[97, 98]] [N] = [N] := by rw [appL, if_pos hok]; rfl
      have k54 := p54w [[97, 98]] [List.replicate s.toNat 0] 0 0 0 k false (by decide) (by simp) (by simp [sumL]; omega) (by decide) hmay 0 0 _ [[97, 98]] [N] (by simp) (by simp) (by rw [hap]; simp) (by rw [hap]; exact hNB) (by rw [hap]; simp) hok k79
      subst hkk hss
      exact p18w z n e _ _ _ true [[97, 98]] [N] hz0 hn0 he0 hs (by omega) (by omega) (fun _ => ⟨hfit, rfl, hNl⟩) (fun h => by cases h) k54
    · have hmay : mayL [List.replicate s.toNat 0] k = false := by
        cases hm : mayL [List.replicate s.toNat 0] k with
        | false => rfl
        | true =>
          exfalso
          obtain ⟨⟨_, _, _, h4⟩, _⟩ := may_iff.1 hm
          rw [hsz, show ((s.toNat + 1 : Nat) : Int) = s + 1 by omega] at h4
          exact hfit h4
      have k54 := p54_no [[97, 98]] [List.replicate s.toNat 0] 0 0 0 k false (by simp) (by simp [sumL]; omega) (by rw [hmay]; simp)
      subst hkk hss
      exact p18w z n e 0 0 0 false [] [] hz0 hn0 he0 hs (by omega) (by omega) (fun h => by cases h) (fun _ => hfit) k54
  · exact p18n z n e hz0 hn0 he0 hs

end Go.Proofs.Ytefbgdnobnemkaa.AM
