/-
  A text that comes into lines, as the document says.
-/
import Derived.Test.YtefbgdnobnemkaaF59
set_option linter.unusedSimpArgs false
set_option linter.unusedVariables false
set_option linter.unusedSectionVars false
namespace Go.Proofs.Ytefbgdnobnemkaa.AM
open Go Go.RowKit

theorem noLF_found {s : List UInt8} {i : Nat} (hi : i < s.length) (h : ((s.getD i 0).toNat : Int) = 10) : noLF s = false := by
  have e : s[i] = 10 := by
    have : s.getD i 0 = s[i] := by simp [hi]
    rw [this] at h
    exact UInt8.toNat_inj.1 (by show s[i].toNat = 10; omega)
  cases hn : noLF s with
  | false => rfl
  | true =>
    unfold noLF at hn
    have := List.all_eq_true.1 hn s[i] (List.getElem_mem hi)
    rw [e] at this
    exact absurd this (by decide)
theorem noLF_next {s : List UInt8} {i : Nat} (h : noLF (s.take i) = true) (hi : i < s.length) (hn : ¬ ((s.getD i 0).toNat : Int) = 10) : noLF (s.take (i + 1)) = true := by
  unfold noLF at *
  rw [List.take_add_one, List.all_append, h, List.getElem?_eq_getElem hi]
  simp only [Option.toList, List.all_cons, List.all_nil, Bool.and_true, Bool.true_and, bne_iff_ne, ne_eq]
  intro e
  apply hn
  have : s.getD i 0 = s[i] := by simp [hi]
  rw [this, e]; rfl
theorem own2 {f : Int} {a b c d : Nat} (h1 : a = b) (h2 : c = d) : some (Obj.mk true false (.agg [.int .i64 f, .own 67 a, .own 94 c]) 47) = some (Obj.mk true false (.agg [.int .i64 f, .own 67 b, .own 94 d]) 47) := by rw [h1, h2]
set_option maxRecDepth 10000 in
set_option maxHeartbeats 8000000 in
theorem p42 (x n : Int) (hx : inK .i64 x) (hn : 0 < n ∧ n ≤ 1000000000) : Pure Try.prog 42 [.int .i64 x, .int .i64 n] (.int .i64 (if x.tmod n < 0 then x.tmod n + n else x.tmod n)) := by
  have h1 := Int.tmod_lt_of_pos x hn.1
  have h2 := Int.lt_tmod_of_pos x hn.1
  refine Pure.ofT tab2_ok Try.func42 rfl rfl [.tmp 4] rfl (by decide) rfl ⟨14, 4, (.node (.node (.node (.node (.leaf (.int .i64 x)) (J 0)) (J 1)) (J 2)) (.node (.node (.node (.leaf (.int .i64 n)) (J 0)) (J 1)) (J 2))), (OO 4)⟩ (by kernel_rfl) (by kernel_rfl) ?_
  repeat' (first
    | refine allProp_T ?_
    | exact trivial
    | (refine URun.id ?_; first
        | refine URun.nil ?_
        | refine URun.many tabs2 rfl rfl (by kernel_rfl) ?_ ?_
        | refine URun.same tabs2 rfl rfl rfl ?_
        | refine URun.same2 tabs2 rfl rfl rfl ?_
        | refine URun.split tabs2 rfl rfl rfl rfl (fun h => ?_) (fun h => ?_))
    | (refine TRun.id ?_; first
        | refine TRun.nil ?_
        | refine TRun.many rfl rfl (by kernel_rfl) ?_ ?_
        | refine TRun.same rfl rfl rfl ?_
        | refine TRun.same2 rfl rfl rfl ?_
        | refine TRun.split rfl rfl rfl rfl (fun h => ?_) (fun h => ?_))
    | (refine HoldsT.id ?_; first
        | refine HoldsT.seq ?_
        | refine HoldsT.regionU ?_
        | refine HoldsT.drawn tabs2 ?_
        | refine HoldsT.yes rfl ?_
        | refine HoldsT.no rfl ?_
        | refine HoldsT.cond rfl (fun h => ?_) (fun h => ?_)
        | refine HoldsT.block ?_
        | refine HoldsT.ret ?_
        | refine HoldsT.skip ?_
        | refine HoldsT.exit ?_)
    | (refine okTr_intro ?_; kernel_rfl)
    | exact absurd rfl h
    | refine allProp_C ?_ ?_
    | refine And.intro ?_ ?_
    | omega
    | (show _ < List.length _; omega)
    | exact rowlen_intro rfl
    | exact lenEq_intro rfl
    | exact Nat.le_of_ble_eq_true rfl
    | (simp only [AV.rowlenD, AV.rowlen, AV.ncells, mulSz, toN, Option.map_some, Option.map_none, cutL, List.length_take, List.length_drop, List.length_append, List.length_cons, List.length_nil, List.length_set, Option.some.injEq, Int.reduceToNat] <;> omega))
  all_goals first
    | exact FinC.te (y := .int .i64 _) rfl rfl trivial (congrArg (AV.int .i64) (if_pos ‹_›).symm)
    | exact FinC.te (y := .int .i64 _) rfl rfl trivial (congrArg (AV.int .i64) (if_neg ‹_›).symm)

def sh44truea (ls : List (List UInt8)) (f t c : Int) (tx : List UInt8) (j : Int) : TS := ⟨97, 7, (.node (.node (.node (.node (.node (.node (.node (.leaf (.slS ls)) (J 0)) (J 1)) (J 2)) (J 3)) (.node (.node (.node (.node (.leaf (.str tx)) (J 0)) (J 1)) (J 2)) (.node (.node (.node (.leaf (.ptr 12 0)) (J 0)) (J 1)) (J 2)))) (.node (.node (.node (.node (.node (.leaf (.int .i64 t)) (J 0)) (J 1)) (J 2)) (J 3)) (.node (J 3) (.node (.node (.node (.leaf (.int .i64 j)) (J 0)) (J 1)) (J 2))))) (.node (.node (.node (.node (.node (.node (.leaf (.int .i64 f)) (J 0)) (J 1)) (J 2)) (J 3)) (.node (.node (.node (.node (.leaf (.bool true)) (J 0)) (J 1)) (J 2)) (J 3))) (.node (.node (.node (.node (.node (.leaf (.int .i64 c)) (J 0)) (J 1)) (J 2)) (J 3)) (J 4)))), (.node (.node (.node (OO 4) (.node (OO 3) (.node (.node (.node (.leaf (some ⟨true, false, .agg [.int .i64 0, .nilsl, .nilsl], 47⟩)) (OO 0)) (OO 1)) (OO 2)))) (OO 5)) (OO 6))⟩
def sh44trueb (ls old out : List (List UInt8)) (f t c : Int) (tx : List UInt8) (i : Int) : TS := ⟨97, 7, (.node (.node (.node (.node (.node (.node (.node (.leaf (.slS ls)) (J 0)) (J 1)) (.node (.node (.leaf (.int .i64 i)) (J 0)) (J 1))) (J 3)) (.node (.node (.node (.node (.leaf (.str tx)) (J 0)) (J 1)) (J 2)) (.node (.node (.node (.leaf (.ptr 12 0)) (J 0)) (J 1)) (J 2)))) (.node (.node (.node (.node (.node (.leaf (.int .i64 t)) (J 0)) (J 1)) (J 2)) (J 3)) (J 4))) (.node (.node (J 4) (.node (.node (.node (.node (.leaf (.bool true)) (J 0)) (J 1)) (J 2)) (J 3))) (.node (.node (.node (.node (.node (.leaf (.int .i64 c)) (J 0)) (J 1)) (J 2)) (J 3)) (.node (J 3) (.node (.node (.node (.leaf (.ptr 15 0)) (J 0)) (J 1)) (J 2)))))), (.node (.node (.node (OO 4) (.node (OO 3) (.node (.node (.node (.leaf (some ⟨true, false, .agg [.int .i64 0, .nilsl, .nilsl], 47⟩)) (OO 0)) (OO 1)) (OO 2)))) (.node (OO 4) (.node (OO 3) (.node (OO 2) (.node (.node (OO 0) (.leaf (some ⟨true, true, .slS out, 9⟩))) (OO 1)))))) (.node (OO 5) (.node (.node (.node (.node (.node (OO 0) (.leaf (some ⟨true, true, .slS old, 9⟩))) (OO 1)) (OO 2)) (OO 3)) (.node (OO 3) (.node (.node (.node (.leaf (some ⟨true, false, .agg [.int .i64 f, .own 67 old.length, .own 94 out.length], 47⟩)) (OO 0)) (OO 1)) (OO 2))))))⟩
set_option maxRecDepth 10000 in
set_option maxHeartbeats 8000000 in
theorem p44_true (ls : List (List UInt8)) (f t c : Int) (tx : List UInt8) (hL : ls.length ≤ 1000000000) (hB : ∀ n : Nat, (ls.getD n []).length ≤ 1000000000) (hx : tx.length ≤ 1000000000) : Pure Try.prog 44 [.slS ls, .int .i64 f, .int .i64 t, .int .i64 c, .str tx, .bool true] (besR ls f t c tx true).av := by
  by_cases hb : 0 ≤ f ∧ f ≤ t ∧ t < ls.length ∧ 0 ≤ c ∧ c ≤ 4096
  · have hno : noLF tx = false → besR ls f t c tx true = chNo := fun h => if_neg (fun x => by rw [h] at x; exact absurd x.2 (by decide))
    have hyes : noLF tx = true → besR ls f t c tx true = ⟨true, f, midL ls f (t - f + 1), eachL (rowI ls c tx true) f (t - f + 1).toNat⟩ := fun h => if_pos ⟨hb, h⟩
    refine Pure.ofT tab2_ok Try.func44 rfl rfl [.cell 12 47, .tmp 13] rfl (by decide) rfl ⟨97, 7, (.node (.node (.node (.node (.node (.node (.node (.leaf (.slS ls)) (J 0)) (J 1)) (J 2)) (J 3)) (.node (.node (.node (.node (.leaf (.str tx)) (J 0)) (J 1)) (J 2)) (J 3))) (.node (.node (.node (.node (.node (.leaf (.int .i64 t)) (J 0)) (J 1)) (J 2)) (J 3)) (J 4))) (.node (.node (.node (.node (.node (.node (.leaf (.int .i64 f)) (J 0)) (J 1)) (J 2)) (J 3)) (.node (.node (.node (.node (.leaf (.bool true)) (J 0)) (J 1)) (J 2)) (J 3))) (.node (.node (.node (.node (.node (.leaf (.int .i64 c)) (J 0)) (J 1)) (J 2)) (J 3)) (J 4)))), (OO 7)⟩ (by kernel_rfl) (by kernel_rfl) ?_
    repeat' (first
      | refine allProp_T ?_
      | exact trivial
      | (refine URun.id ?_; first
          | refine URun.nil ?_
          | refine URun.many tabs2 rfl rfl (by kernel_rfl) ?_ ?_
          | refine URun.same tabs2 rfl rfl rfl ?_
          | refine URun.same2 tabs2 rfl rfl rfl ?_
          | refine URun.yes tabs2 rfl rfl (by omega) rfl ?_
          | refine URun.no tabs2 rfl rfl (by omega) rfl ?_
          | refine URun.split tabs2 rfl rfl rfl rfl (fun h => ?_) (fun h => ?_))
      | (refine TRun.id ?_; first
          | refine TRun.nil ?_
          | refine TRun.many rfl rfl (by kernel_rfl) ?_ ?_
          | refine TRun.same rfl rfl rfl ?_
          | refine TRun.same2 rfl rfl rfl ?_
          | refine TRun.yes rfl rfl (by omega) rfl ?_
          | refine TRun.no rfl rfl (by omega) rfl ?_
          | refine TRun.split rfl rfl rfl rfl (fun h => ?_) (fun h => ?_))
      | (refine HoldsT.id ?_; first
          | refine HoldsT.seq ?_
          | refine HoldsT.regionU ?_
          | refine HoldsT.drawn tabs2 ?_
          | refine HoldsT.yes rfl ?_
          | refine HoldsT.no rfl ?_
          | refine HoldsT.cond rfl (fun h => ?_) (fun h => ?_)
          | refine HoldsT.block ?_
          | refine HoldsT.ret ?_
          | refine HoldsT.skip ?_
          | refine HoldsT.exit ?_)
      | (refine okTr_intro ?_; kernel_rfl)
      | exact absurd rfl h
      | refine allProp_C ?_ ?_
      | refine And.intro ?_ ?_
      | omega
      | (show _ < List.length _; omega)
      | exact rowlen_intro rfl
      | exact lenEq_intro rfl
      | exact Nat.le_of_ble_eq_true rfl
      | (simp only [AV.rowlenD, AV.rowlen, AV.ncells, mulSz, toN, Option.map_some, Option.map_none, cutL, List.length_take, List.length_drop, List.length_append, List.length_cons, List.length_nil, List.length_set, Option.some.injEq, Int.reduceToNat] <;> omega))
    refine HoldsT.loop (fun j : Int => sh44truea ls f t c tx j) (fun j => (tx.length - j).toNat) (fun j => 0 ≤ j ∧ j ≤ tx.length ∧ noLF (tx.take j.toNat) = true) 0 ?_ ?_ (fun _ => by kernel_rfl) ?_
    · refine WeakT.of ?_ ?_ (by kernel_rfl)
      · repeat' (first | exact TTle.junk _ _ | exact TTle.same _ | refine TTle.node ?_ ?_ | refine TTle.leaf ?_ | exact AVle.junk _ | exact AVle.rfl' rfl | exact AVle.nilS | exact AVle.nilB)
      · repeat' (first | exact OOle.none _ _ | exact OOle.same _ | refine OOle.node ?_ ?_ | exact OOle.leaf _ | exact OOle.gone _)
    · exact ⟨by simp, by simp, rfl⟩
    · intro j hj
      obtain ⟨g1, g2, g3⟩ := hj
      show HoldsT Try.prog _ (sh44truea ls f t c tx j) _
      repeat' (first
        | refine allProp_T ?_
        | exact trivial
        | (refine URun.id ?_; first
            | refine URun.nil ?_
            | refine URun.many tabs2 rfl rfl (by kernel_rfl) ?_ ?_
            | refine URun.same tabs2 rfl rfl rfl ?_
            | refine URun.same2 tabs2 rfl rfl rfl ?_
            | refine URun.split tabs2 rfl rfl rfl rfl (fun h => ?_) (fun h => ?_))
        | (refine TRun.id ?_; first
            | refine TRun.nil ?_
            | refine TRun.many rfl rfl (by kernel_rfl) ?_ ?_
            | refine TRun.same rfl rfl rfl ?_
            | refine TRun.same2 rfl rfl rfl ?_
            | refine TRun.split rfl rfl rfl rfl (fun h => ?_) (fun h => ?_))
        | (refine HoldsT.id ?_; first
            | refine HoldsT.seq ?_
            | refine HoldsT.regionU ?_
            | refine HoldsT.drawn tabs2 ?_
            | refine HoldsT.yes rfl ?_
            | refine HoldsT.no rfl ?_
            | refine HoldsT.cond rfl (fun h => ?_) (fun h => ?_)
            | refine HoldsT.block ?_
            | refine HoldsT.ret ?_
            | refine HoldsT.skip ?_
            | refine HoldsT.exit ?_)
        | (refine okTr_intro ?_; kernel_rfl)
        | exact absurd rfl h
        | refine allProp_C ?_ ?_
        | refine And.intro ?_ ?_
        | omega
        | (show _ < List.length _; omega)
        | exact rowlen_intro rfl
        | exact lenEq_intro rfl
        | exact Nat.le_of_ble_eq_true rfl
        | (simp only [AV.rowlenD, AV.rowlen, AV.ncells, mulSz, toN, Option.map_some, Option.map_none, cutL, List.length_take, List.length_drop, List.length_append, List.length_cons, List.length_nil, List.length_set, Option.some.injEq, Int.reduceToNat] <;> omega))
      · exact FinC.t (y := .tup [.agg [.int .i64 _, .nilsl, .nilsl], .bool _]) rfl rfl ⟨⟨trivial, trivial, trivial, trivial⟩, trivial, trivial⟩ (by rw [hno (noLF_found (i := j.toNat) (by omega) ‹_›)]; exact noLeC)
      · refine ⟨j + 1, ⟨by omega, by omega, by omega, ?_⟩, ?_⟩
        · rw [toNat_succ g1]; exact noLF_next g3 (by omega) ‹_›
        · refine WeakT.of ?_ ?_ (by kernel_rfl)
          · repeat' (first | exact TTle.junk _ _ | exact TTle.same _ | refine TTle.node ?_ ?_ | refine TTle.leaf ?_ | exact AVle.junk _ | exact AVle.rfl' rfl | exact AVle.nilS | exact AVle.nilB)
          · repeat' (first | exact OOle.none _ _ | exact OOle.same _ | refine OOle.node ?_ ?_ | exact OOle.leaf _ | exact OOle.gone _)
      · rw [List.take_of_length_le (by omega)] at g3
        rw [hyes g3]
        refine HoldsT.loop (fun x : Int × (List (List UInt8) × List (List UInt8)) => sh44trueb ls x.2.1 x.2.2 f t c tx x.1) (fun x => (t + 1 - x.1).toNat) (fun x => f ≤ x.1 ∧ x.1 ≤ t + 1 ∧ x.2.1 = eachL (fun i => ls.getD i.toNat []) f (x.1 - f).toNat ∧ x.2.2 = eachL (rowI ls c tx true) f (x.1 - f).toNat) (f, ([], [])) ?_ ?_ (fun _ => by kernel_rfl) ?_
        · refine (WeakT.canonF 15 1 67 9 (.slS []) rfl rfl rfl rfl rfl (by kernel_rfl) rfl rfl).trans ((WeakT.canonF 15 2 94 9 (.slS []) rfl rfl rfl rfl rfl (by kernel_rfl) rfl rfl).trans ?_)
          refine WeakT.of ?_ ?_ (by kernel_rfl)
          · repeat' (first | exact TTle.junk _ _ | exact TTle.same _ | refine TTle.node ?_ ?_ | refine TTle.leaf ?_ | exact AVle.junk _ | exact AVle.rfl' rfl | exact AVle.nilS | exact AVle.nilB)
          · repeat' (first | exact OOle.none _ _ | exact OOle.same _ | refine OOle.node ?_ ?_ | exact OOle.leaf _ | exact OOle.gone _)
        · exact ⟨by simp, by simp only; omega, by simp [eachL], by simp [eachL]⟩
        · intro x hx
          obtain ⟨i, old, out⟩ := x
          obtain ⟨q1, q2, q3, q4⟩ := hx
          simp only at q1 q2 q3 q4
          have hli := hB i.toNat
          have hol : old.length = (i - f).toNat := by rw [q3]; exact eachL_length _ _ _
          have hnl : out.length = (i - f).toNat := by rw [q4]; exact eachL_length _ _ _
          have k68 := p68 (c - (((ls.getD i.toNat [])).length : Int)) (by omega)
          have hsl := spc_len (i := c - (((ls.getD i.toNat [])).length : Int))
          have hsl2 : (ls.getD i.toNat [] ++ spc (c - (((ls.getD i.toNat [])).length : Int))).length = ((ls.getD i.toNat [])).length + (c - (((ls.getD i.toNat [])).length : Int)).toNat := by rw [List.length_append, hsl]
          show HoldsT Try.prog _ (sh44trueb ls old out f t c tx i) _
          repeat' (first
            | refine allProp_T ?_
            | exact trivial
            | (refine URun.id ?_; first
                | refine URun.nil ?_
                | refine URun.many tabs2 rfl rfl (by kernel_rfl) ?_ ?_
                | (refine URun.toCall 68 rfl ?_; first
                  | refine URun.call tabs2 rfl rfl rfl rfl k68 rfl rfl ?_ rfl ?_)
                | refine URun.same tabs2 rfl rfl rfl ?_
                | refine URun.same2 tabs2 rfl rfl rfl ?_
                | refine URun.split tabs2 rfl rfl rfl rfl (fun h => ?_) (fun h => ?_))
            | (refine TRun.id ?_; first
                | refine TRun.nil ?_
                | refine TRun.many rfl rfl (by kernel_rfl) ?_ ?_
                | (refine TRun.toCall 68 rfl ?_; first
                  | refine TRun.call rfl rfl rfl rfl k68 rfl rfl ?_ rfl ?_)
                | refine TRun.same rfl rfl rfl ?_
                | refine TRun.same2 rfl rfl rfl ?_
                | refine TRun.split rfl rfl rfl rfl (fun h => ?_) (fun h => ?_))
            | (refine HoldsT.id ?_; first
                | refine HoldsT.seq ?_
                | refine HoldsT.regionU ?_
                | refine HoldsT.drawn tabs2 ?_
                | refine HoldsT.yes rfl ?_
                | refine HoldsT.no rfl ?_
                | refine HoldsT.cond rfl (fun h => ?_) (fun h => ?_)
                | refine HoldsT.block ?_
                | refine HoldsT.ret ?_
                | refine HoldsT.skip ?_
                | refine HoldsT.exit ?_)
            | (refine okTr_intro ?_; kernel_rfl)
            | exact absurd rfl h
            | refine allProp_C ?_ ?_
            | refine And.intro ?_ ?_
            | omega
            | (show _ < List.length _; omega)
            | exact rowlen_intro rfl
            | exact lenEq_intro rfl
            | exact Nat.le_of_ble_eq_true rfl
            | (simp only [AV.rowlenD, AV.rowlen, AV.ncells, mulSz, toN, Option.map_some, Option.map_none, cutL, List.length_take, List.length_drop, List.length_append, List.length_cons, List.length_nil, List.length_set, Option.some.injEq, Int.reduceToNat] <;> omega))
          rotate_right
          · refine FinC.te (y := .tup [.agg [.int .i64 _, .slS _, .slS _], .bool _]) rfl rfl ⟨⟨trivial, ⟨rfl, trivial⟩, ⟨rfl, trivial⟩, trivial⟩, trivial, trivial⟩ ?_
            rw [q3, q4, show i - f = t - f + 1 by omega, eachL_map (fun i => ls.getD i.toNat []), ← mid_map (by omega) (by omega) (by omega)]; rfl
          all_goals
            have hfi : f + ((i - f).toNat : Int) = i := by omega
            have hlen1 : old.length + 1 = (eachL (fun i => ls.getD i.toNat []) f ((i - f).toNat + 1)).length := by rw [eachL_length, hol]
            have hlen2 : out.length + 1 = (eachL (rowI ls c tx true) f ((i - f).toNat + 1)).length := by rw [eachL_length, hnl]
            have h67 : old ++ [(ls.getD i.toNat [])] = eachL (fun i => ls.getD i.toNat []) f ((i - f).toNat + 1) := by rw [eachL, ← q3, hfi]
            have hcat : ∀ z, z = insL ((ls.getD i.toNat [])) c tx true → out ++ [z] = eachL (rowI ls c tx true) f ((i - f).toNat + 1) := fun z hz => by rw [hz, eachL, ← q4, hfi]; rfl
            have hza : c ≤ (((ls.getD i.toNat [] ++ spc (c - (((ls.getD i.toNat [])).length : Int)))).length : Int) → cutL (ls.getD i.toNat [] ++ spc (c - (((ls.getD i.toNat [])).length : Int))) none (some c.toNat) ++ tx ++ cutL (ls.getD i.toNat [] ++ spc (c - (((ls.getD i.toNat [])).length : Int))) (some c.toNat) none = insL ((ls.getD i.toNat [])) c tx true := fun h => by
              unfold insL; rw [if_pos rfl]; (try dsimp only); rw [if_pos h]; rfl
            have hzb : ¬ c ≤ (((ls.getD i.toNat [] ++ spc (c - (((ls.getD i.toNat [])).length : Int)))).length : Int) → (ls.getD i.toNat [] ++ spc (c - (((ls.getD i.toNat [])).length : Int))) = insL ((ls.getD i.toNat [])) c tx true := fun h => by
              unfold insL; rw [if_pos rfl]; (try dsimp only); rw [if_neg h]
            refine ⟨(i + 1, (eachL (fun i => ls.getD i.toNat []) f ((i - f).toNat + 1), eachL (rowI ls c tx true) f ((i - f).toNat + 1))), ⟨by simp only; omega, by simp only; omega, by simp only; omega, by simp only; rw [show (i + 1 - f).toNat = (i - f).toNat + 1 by omega], by simp only; rw [show (i + 1 - f).toNat = (i - f).toNat + 1 by omega]⟩, ?_⟩
            refine WeakT.of ?_ ?_ (by kernel_rfl)
            · repeat' (first | exact TTle.junk _ _ | exact TTle.same _ | refine TTle.node ?_ ?_ | refine TTle.leaf ?_ | exact AVle.junk _ | exact AVle.rfl' rfl)
            · repeat' (first | exact OOle.none _ _ | exact OOle.same _ | refine OOle.node ?_ ?_ | exact OOle.leaf _ | exact OOle.eq (congrArg (fun z => some (Obj.mk true true (.slS z) 9)) h67) | exact OOle.eq (congrArg (fun z => some (Obj.mk true true (.slS z) 9)) (hcat _ (hza ‹_›))) | exact OOle.eq (congrArg (fun z => some (Obj.mk true true (.slS z) 9)) (hcat _ (hzb ‹_›))) | exact OOle.eq (own2 hlen1 hlen2) | exact OOle.gone _)
  · have e : besR ls f t c tx true = chNo := if_neg (fun x => hb x.1)
    rw [e]
    refine Pure.ofT tab2_ok Try.func44 rfl rfl [.cell 12 47, .tmp 13] rfl (by decide) rfl ⟨97, 7, (.node (.node (.node (.node (.node (.node (.node (.leaf (.slS ls)) (J 0)) (J 1)) (J 2)) (J 3)) (.node (.node (.node (.node (.leaf (.str tx)) (J 0)) (J 1)) (J 2)) (J 3))) (.node (.node (.node (.node (.node (.leaf (.int .i64 t)) (J 0)) (J 1)) (J 2)) (J 3)) (J 4))) (.node (.node (.node (.node (.node (.node (.leaf (.int .i64 f)) (J 0)) (J 1)) (J 2)) (J 3)) (.node (.node (.node (.node (.leaf (.bool true)) (J 0)) (J 1)) (J 2)) (J 3))) (.node (.node (.node (.node (.node (.leaf (.int .i64 c)) (J 0)) (J 1)) (J 2)) (J 3)) (J 4)))), (OO 7)⟩ (by kernel_rfl) (by kernel_rfl) ?_
    repeat' (first
      | refine allProp_T ?_
      | exact trivial
      | (refine URun.id ?_; first
          | refine URun.nil ?_
          | refine URun.many tabs2 rfl rfl (by kernel_rfl) ?_ ?_
          | refine URun.same tabs2 rfl rfl rfl ?_
          | refine URun.same2 tabs2 rfl rfl rfl ?_
          | refine URun.split tabs2 rfl rfl rfl rfl (fun h => ?_) (fun h => ?_))
      | (refine TRun.id ?_; first
          | refine TRun.nil ?_
          | refine TRun.many rfl rfl (by kernel_rfl) ?_ ?_
          | refine TRun.same rfl rfl rfl ?_
          | refine TRun.same2 rfl rfl rfl ?_
          | refine TRun.split rfl rfl rfl rfl (fun h => ?_) (fun h => ?_))
      | (refine HoldsT.id ?_; first
          | refine HoldsT.seq ?_
          | refine HoldsT.regionU ?_
          | refine HoldsT.drawn tabs2 ?_
          | refine HoldsT.yes rfl ?_
          | refine HoldsT.no rfl ?_
          | refine HoldsT.cond rfl (fun h => ?_) (fun h => ?_)
          | refine HoldsT.block ?_
          | refine HoldsT.ret ?_
          | refine HoldsT.skip ?_
          | refine HoldsT.exit ?_)
      | (refine okTr_intro ?_; kernel_rfl)
      | exact absurd rfl h
      | refine allProp_C ?_ ?_
      | refine And.intro ?_ ?_
      | omega
      | (show _ < List.length _; omega)
      | exact rowlen_intro rfl
      | exact lenEq_intro rfl
      | exact Nat.le_of_ble_eq_true rfl
      | (simp only [AV.rowlenD, AV.rowlen, AV.ncells, mulSz, toN, Option.map_some, Option.map_none, cutL, List.length_take, List.length_drop, List.length_append, List.length_cons, List.length_nil, List.length_set, Option.some.injEq, Int.reduceToNat] <;> omega))
    all_goals first
      | exact FinC.t (y := .tup [.agg [.int .i64 _, .nilsl, .nilsl], .bool _]) rfl rfl ⟨⟨trivial, trivial, trivial, trivial⟩, trivial, trivial⟩ noLeC
      | (exfalso; exact hb ⟨by omega, by omega, by omega, by omega, by omega⟩)

def sh44falsea (ls : List (List UInt8)) (f t c : Int) (tx : List UInt8) (j : Int) : TS := ⟨97, 7, (.node (.node (.node (.node (.node (.node (.node (.leaf (.slS ls)) (J 0)) (J 1)) (J 2)) (J 3)) (.node (.node (.node (.node (.leaf (.str tx)) (J 0)) (J 1)) (J 2)) (.node (.node (.node (.leaf (.ptr 12 0)) (J 0)) (J 1)) (J 2)))) (.node (.node (.node (.node (.node (.leaf (.int .i64 t)) (J 0)) (J 1)) (J 2)) (J 3)) (.node (J 3) (.node (.node (.node (.leaf (.int .i64 j)) (J 0)) (J 1)) (J 2))))) (.node (.node (.node (.node (.node (.node (.leaf (.int .i64 f)) (J 0)) (J 1)) (J 2)) (J 3)) (.node (.node (.node (.node (.leaf (.bool false)) (J 0)) (J 1)) (J 2)) (J 3))) (.node (.node (.node (.node (.node (.leaf (.int .i64 c)) (J 0)) (J 1)) (J 2)) (J 3)) (J 4)))), (.node (.node (.node (OO 4) (.node (OO 3) (.node (.node (.node (.leaf (some ⟨true, false, .agg [.int .i64 0, .nilsl, .nilsl], 47⟩)) (OO 0)) (OO 1)) (OO 2)))) (OO 5)) (OO 6))⟩
def sh44falseb (ls old out : List (List UInt8)) (f t c : Int) (tx : List UInt8) (i : Int) : TS := ⟨97, 7, (.node (.node (.node (.node (.node (.node (.node (.leaf (.slS ls)) (J 0)) (J 1)) (.node (.node (.leaf (.int .i64 i)) (J 0)) (J 1))) (J 3)) (.node (.node (.node (.node (.leaf (.str tx)) (J 0)) (J 1)) (J 2)) (.node (.node (.node (.leaf (.ptr 12 0)) (J 0)) (J 1)) (J 2)))) (.node (.node (.node (.node (.node (.leaf (.int .i64 t)) (J 0)) (J 1)) (J 2)) (J 3)) (J 4))) (.node (.node (J 4) (.node (.node (.node (.node (.leaf (.bool false)) (J 0)) (J 1)) (J 2)) (J 3))) (.node (.node (.node (.node (.node (.leaf (.int .i64 c)) (J 0)) (J 1)) (J 2)) (J 3)) (.node (J 3) (.node (.node (.node (.leaf (.ptr 15 0)) (J 0)) (J 1)) (J 2)))))), (.node (.node (.node (OO 4) (.node (OO 3) (.node (.node (.node (.leaf (some ⟨true, false, .agg [.int .i64 0, .nilsl, .nilsl], 47⟩)) (OO 0)) (OO 1)) (OO 2)))) (.node (OO 4) (.node (OO 3) (.node (OO 2) (.node (.node (OO 0) (.leaf (some ⟨true, true, .slS out, 9⟩))) (OO 1)))))) (.node (OO 5) (.node (.node (.node (.node (.node (OO 0) (.leaf (some ⟨true, true, .slS old, 9⟩))) (OO 1)) (OO 2)) (OO 3)) (.node (OO 3) (.node (.node (.node (.leaf (some ⟨true, false, .agg [.int .i64 f, .own 67 old.length, .own 94 out.length], 47⟩)) (OO 0)) (OO 1)) (OO 2))))))⟩
set_option maxRecDepth 10000 in
set_option maxHeartbeats 8000000 in
theorem p44_false (ls : List (List UInt8)) (f t c : Int) (tx : List UInt8) (hL : ls.length ≤ 1000000000) (hB : ∀ n : Nat, (ls.getD n []).length ≤ 1000000000) (hx : tx.length ≤ 1000000000) : Pure Try.prog 44 [.slS ls, .int .i64 f, .int .i64 t, .int .i64 c, .str tx, .bool false] (besR ls f t c tx false).av := by
  by_cases hb : 0 ≤ f ∧ f ≤ t ∧ t < ls.length ∧ 0 ≤ c ∧ c ≤ 4096
  · have hno : noLF tx = false → besR ls f t c tx false = chNo := fun h => if_neg (fun x => by rw [h] at x; exact absurd x.2 (by decide))
    have hyes : noLF tx = true → besR ls f t c tx false = ⟨true, f, midL ls f (t - f + 1), eachL (rowI ls c tx false) f (t - f + 1).toNat⟩ := fun h => if_pos ⟨hb, h⟩
    refine Pure.ofT tab2_ok Try.func44 rfl rfl [.cell 12 47, .tmp 13] rfl (by decide) rfl ⟨97, 7, (.node (.node (.node (.node (.node (.node (.node (.leaf (.slS ls)) (J 0)) (J 1)) (J 2)) (J 3)) (.node (.node (.node (.node (.leaf (.str tx)) (J 0)) (J 1)) (J 2)) (J 3))) (.node (.node (.node (.node (.node (.leaf (.int .i64 t)) (J 0)) (J 1)) (J 2)) (J 3)) (J 4))) (.node (.node (.node (.node (.node (.node (.leaf (.int .i64 f)) (J 0)) (J 1)) (J 2)) (J 3)) (.node (.node (.node (.node (.leaf (.bool false)) (J 0)) (J 1)) (J 2)) (J 3))) (.node (.node (.node (.node (.node (.leaf (.int .i64 c)) (J 0)) (J 1)) (J 2)) (J 3)) (J 4)))), (OO 7)⟩ (by kernel_rfl) (by kernel_rfl) ?_
    repeat' (first
      | refine allProp_T ?_
      | exact trivial
      | (refine URun.id ?_; first
          | refine URun.nil ?_
          | refine URun.many tabs2 rfl rfl (by kernel_rfl) ?_ ?_
          | refine URun.same tabs2 rfl rfl rfl ?_
          | refine URun.same2 tabs2 rfl rfl rfl ?_
          | refine URun.yes tabs2 rfl rfl (by omega) rfl ?_
          | refine URun.no tabs2 rfl rfl (by omega) rfl ?_
          | refine URun.split tabs2 rfl rfl rfl rfl (fun h => ?_) (fun h => ?_))
      | (refine TRun.id ?_; first
          | refine TRun.nil ?_
          | refine TRun.many rfl rfl (by kernel_rfl) ?_ ?_
          | refine TRun.same rfl rfl rfl ?_
          | refine TRun.same2 rfl rfl rfl ?_
          | refine TRun.yes rfl rfl (by omega) rfl ?_
          | refine TRun.no rfl rfl (by omega) rfl ?_
          | refine TRun.split rfl rfl rfl rfl (fun h => ?_) (fun h => ?_))
      | (refine HoldsT.id ?_; first
          | refine HoldsT.seq ?_
          | refine HoldsT.regionU ?_
          | refine HoldsT.drawn tabs2 ?_
          | refine HoldsT.yes rfl ?_
          | refine HoldsT.no rfl ?_
          | refine HoldsT.cond rfl (fun h => ?_) (fun h => ?_)
          | refine HoldsT.block ?_
          | refine HoldsT.ret ?_
          | refine HoldsT.skip ?_
          | refine HoldsT.exit ?_)
      | (refine okTr_intro ?_; kernel_rfl)
      | exact absurd rfl h
      | refine allProp_C ?_ ?_
      | refine And.intro ?_ ?_
      | omega
      | (show _ < List.length _; omega)
      | exact rowlen_intro rfl
      | exact lenEq_intro rfl
      | exact Nat.le_of_ble_eq_true rfl
      | (simp only [AV.rowlenD, AV.rowlen, AV.ncells, mulSz, toN, Option.map_some, Option.map_none, cutL, List.length_take, List.length_drop, List.length_append, List.length_cons, List.length_nil, List.length_set, Option.some.injEq, Int.reduceToNat] <;> omega))
    refine HoldsT.loop (fun j : Int => sh44falsea ls f t c tx j) (fun j => (tx.length - j).toNat) (fun j => 0 ≤ j ∧ j ≤ tx.length ∧ noLF (tx.take j.toNat) = true) 0 ?_ ?_ (fun _ => by kernel_rfl) ?_
    · refine WeakT.of ?_ ?_ (by kernel_rfl)
      · repeat' (first | exact TTle.junk _ _ | exact TTle.same _ | refine TTle.node ?_ ?_ | refine TTle.leaf ?_ | exact AVle.junk _ | exact AVle.rfl' rfl | exact AVle.nilS | exact AVle.nilB)
      · repeat' (first | exact OOle.none _ _ | exact OOle.same _ | refine OOle.node ?_ ?_ | exact OOle.leaf _ | exact OOle.gone _)
    · exact ⟨by simp, by simp, rfl⟩
    · intro j hj
      obtain ⟨g1, g2, g3⟩ := hj
      show HoldsT Try.prog _ (sh44falsea ls f t c tx j) _
      repeat' (first
        | refine allProp_T ?_
        | exact trivial
        | (refine URun.id ?_; first
            | refine URun.nil ?_
            | refine URun.many tabs2 rfl rfl (by kernel_rfl) ?_ ?_
            | refine URun.same tabs2 rfl rfl rfl ?_
            | refine URun.same2 tabs2 rfl rfl rfl ?_
            | refine URun.split tabs2 rfl rfl rfl rfl (fun h => ?_) (fun h => ?_))
        | (refine TRun.id ?_; first
            | refine TRun.nil ?_
            | refine TRun.many rfl rfl (by kernel_rfl) ?_ ?_
            | refine TRun.same rfl rfl rfl ?_
            | refine TRun.same2 rfl rfl rfl ?_
            | refine TRun.split rfl rfl rfl rfl (fun h => ?_) (fun h => ?_))
        | (refine HoldsT.id ?_; first
            | refine HoldsT.seq ?_
            | refine HoldsT.regionU ?_
            | refine HoldsT.drawn tabs2 ?_
            | refine HoldsT.yes rfl ?_
            | refine HoldsT.no rfl ?_
            | refine HoldsT.cond rfl (fun h => ?_) (fun h => ?_)
            | refine HoldsT.block ?_
            | refine HoldsT.ret ?_
            | refine HoldsT.skip ?_
            | refine HoldsT.exit ?_)
        | (refine okTr_intro ?_; kernel_rfl)
        | exact absurd rfl h
        | refine allProp_C ?_ ?_
        | refine And.intro ?_ ?_
        | omega
        | (show _ < List.length _; omega)
        | exact rowlen_intro rfl
        | exact lenEq_intro rfl
        | exact Nat.le_of_ble_eq_true rfl
        | (simp only [AV.rowlenD, AV.rowlen, AV.ncells, mulSz, toN, Option.map_some, Option.map_none, cutL, List.length_take, List.length_drop, List.length_append, List.length_cons, List.length_nil, List.length_set, Option.some.injEq, Int.reduceToNat] <;> omega))
      · exact FinC.t (y := .tup [.agg [.int .i64 _, .nilsl, .nilsl], .bool _]) rfl rfl ⟨⟨trivial, trivial, trivial, trivial⟩, trivial, trivial⟩ (by rw [hno (noLF_found (i := j.toNat) (by omega) ‹_›)]; exact noLeC)
      · refine ⟨j + 1, ⟨by omega, by omega, by omega, ?_⟩, ?_⟩
        · rw [toNat_succ g1]; exact noLF_next g3 (by omega) ‹_›
        · refine WeakT.of ?_ ?_ (by kernel_rfl)
          · repeat' (first | exact TTle.junk _ _ | exact TTle.same _ | refine TTle.node ?_ ?_ | refine TTle.leaf ?_ | exact AVle.junk _ | exact AVle.rfl' rfl | exact AVle.nilS | exact AVle.nilB)
          · repeat' (first | exact OOle.none _ _ | exact OOle.same _ | refine OOle.node ?_ ?_ | exact OOle.leaf _ | exact OOle.gone _)
      · rw [List.take_of_length_le (by omega)] at g3
        rw [hyes g3]
        refine HoldsT.loop (fun x : Int × (List (List UInt8) × List (List UInt8)) => sh44falseb ls x.2.1 x.2.2 f t c tx x.1) (fun x => (t + 1 - x.1).toNat) (fun x => f ≤ x.1 ∧ x.1 ≤ t + 1 ∧ x.2.1 = eachL (fun i => ls.getD i.toNat []) f (x.1 - f).toNat ∧ x.2.2 = eachL (rowI ls c tx false) f (x.1 - f).toNat) (f, ([], [])) ?_ ?_ (fun _ => by kernel_rfl) ?_
        · refine (WeakT.canonF 15 1 67 9 (.slS []) rfl rfl rfl rfl rfl (by kernel_rfl) rfl rfl).trans ((WeakT.canonF 15 2 94 9 (.slS []) rfl rfl rfl rfl rfl (by kernel_rfl) rfl rfl).trans ?_)
          refine WeakT.of ?_ ?_ (by kernel_rfl)
          · repeat' (first | exact TTle.junk _ _ | exact TTle.same _ | refine TTle.node ?_ ?_ | refine TTle.leaf ?_ | exact AVle.junk _ | exact AVle.rfl' rfl | exact AVle.nilS | exact AVle.nilB)
          · repeat' (first | exact OOle.none _ _ | exact OOle.same _ | refine OOle.node ?_ ?_ | exact OOle.leaf _ | exact OOle.gone _)
        · exact ⟨by simp, by simp only; omega, by simp [eachL], by simp [eachL]⟩
        · intro x hx
          obtain ⟨i, old, out⟩ := x
          obtain ⟨q1, q2, q3, q4⟩ := hx
          simp only at q1 q2 q3 q4
          have hli := hB i.toNat
          have hol : old.length = (i - f).toNat := by rw [q3]; exact eachL_length _ _ _
          have hnl : out.length = (i - f).toNat := by rw [q4]; exact eachL_length _ _ _
          have k68 := p68 (c - (((ls.getD i.toNat [])).length : Int)) (by omega)
          have hsl := spc_len (i := c - (((ls.getD i.toNat [])).length : Int))
          have hsl2 : (ls.getD i.toNat [] ++ spc (c - (((ls.getD i.toNat [])).length : Int))).length = ((ls.getD i.toNat [])).length + (c - (((ls.getD i.toNat [])).length : Int)).toNat := by rw [List.length_append, hsl]
          show HoldsT Try.prog _ (sh44falseb ls old out f t c tx i) _
          repeat' (first
            | refine allProp_T ?_
            | exact trivial
            | (refine URun.id ?_; first
                | refine URun.nil ?_
                | refine URun.many tabs2 rfl rfl (by kernel_rfl) ?_ ?_
                | (refine URun.toCall 68 rfl ?_; first
                  | refine URun.call tabs2 rfl rfl rfl rfl k68 rfl rfl ?_ rfl ?_)
                | refine URun.same tabs2 rfl rfl rfl ?_
                | refine URun.same2 tabs2 rfl rfl rfl ?_
                | refine URun.split tabs2 rfl rfl rfl rfl (fun h => ?_) (fun h => ?_))
            | (refine TRun.id ?_; first
                | refine TRun.nil ?_
                | refine TRun.many rfl rfl (by kernel_rfl) ?_ ?_
                | (refine TRun.toCall 68 rfl ?_; first
                  | refine TRun.call rfl rfl rfl rfl k68 rfl rfl ?_ rfl ?_)
                | refine TRun.same rfl rfl rfl ?_
                | refine TRun.same2 rfl rfl rfl ?_
                | refine TRun.split rfl rfl rfl rfl (fun h => ?_) (fun h => ?_))
            | (refine HoldsT.id ?_; first
                | refine HoldsT.seq ?_
                | refine HoldsT.regionU ?_
                | refine HoldsT.drawn tabs2 ?_
                | refine HoldsT.yes rfl ?_
                | refine HoldsT.no rfl ?_
                | refine HoldsT.cond rfl (fun h => ?_) (fun h => ?_)
                | refine HoldsT.block ?_
                | refine HoldsT.ret ?_
                | refine HoldsT.skip ?_
                | refine HoldsT.exit ?_)
            | (refine okTr_intro ?_; kernel_rfl)
            | exact absurd rfl h
            | refine allProp_C ?_ ?_
            | refine And.intro ?_ ?_
            | omega
            | (show _ < List.length _; omega)
            | exact rowlen_intro rfl
            | exact lenEq_intro rfl
            | exact Nat.le_of_ble_eq_true rfl
            | (simp only [AV.rowlenD, AV.rowlen, AV.ncells, mulSz, toN, Option.map_some, Option.map_none, cutL, List.length_take, List.length_drop, List.length_append, List.length_cons, List.length_nil, List.length_set, Option.some.injEq, Int.reduceToNat] <;> omega))
          rotate_right
          · refine FinC.te (y := .tup [.agg [.int .i64 _, .slS _, .slS _], .bool _]) rfl rfl ⟨⟨trivial, ⟨rfl, trivial⟩, ⟨rfl, trivial⟩, trivial⟩, trivial, trivial⟩ ?_
            rw [q3, q4, show i - f = t - f + 1 by omega, eachL_map (fun i => ls.getD i.toNat []), ← mid_map (by omega) (by omega) (by omega)]; rfl
          all_goals
            have hfi : f + ((i - f).toNat : Int) = i := by omega
            have hlen1 : old.length + 1 = (eachL (fun i => ls.getD i.toNat []) f ((i - f).toNat + 1)).length := by rw [eachL_length, hol]
            have hlen2 : out.length + 1 = (eachL (rowI ls c tx false) f ((i - f).toNat + 1)).length := by rw [eachL_length, hnl]
            have h67 : old ++ [(ls.getD i.toNat [])] = eachL (fun i => ls.getD i.toNat []) f ((i - f).toNat + 1) := by rw [eachL, ← q3, hfi]
            have hcat : ∀ z, z = insL ((ls.getD i.toNat [])) c tx false → out ++ [z] = eachL (rowI ls c tx false) f ((i - f).toNat + 1) := fun z hz => by rw [hz, eachL, ← q4, hfi]; rfl
            have hza : c ≤ (((ls.getD i.toNat [])).length : Int) → cutL (ls.getD i.toNat []) none (some c.toNat) ++ tx ++ cutL (ls.getD i.toNat []) (some c.toNat) none = insL ((ls.getD i.toNat [])) c tx false := fun h => by
              unfold insL; rw [if_neg (show ¬ (false = true) by decide)]; (try dsimp only); rw [if_pos h]; rfl
            have hzb : ¬ c ≤ (((ls.getD i.toNat [])).length : Int) → (ls.getD i.toNat []) = insL ((ls.getD i.toNat [])) c tx false := fun h => by
              unfold insL; rw [if_neg (show ¬ (false = true) by decide)]; (try dsimp only); rw [if_neg h]
            refine ⟨(i + 1, (eachL (fun i => ls.getD i.toNat []) f ((i - f).toNat + 1), eachL (rowI ls c tx false) f ((i - f).toNat + 1))), ⟨by simp only; omega, by simp only; omega, by simp only; omega, by simp only; rw [show (i + 1 - f).toNat = (i - f).toNat + 1 by omega], by simp only; rw [show (i + 1 - f).toNat = (i - f).toNat + 1 by omega]⟩, ?_⟩
            refine WeakT.of ?_ ?_ (by kernel_rfl)
            · repeat' (first | exact TTle.junk _ _ | exact TTle.same _ | refine TTle.node ?_ ?_ | refine TTle.leaf ?_ | exact AVle.junk _ | exact AVle.rfl' rfl)
            · repeat' (first | exact OOle.none _ _ | exact OOle.same _ | refine OOle.node ?_ ?_ | exact OOle.leaf _ | exact OOle.eq (congrArg (fun z => some (Obj.mk true true (.slS z) 9)) h67) | exact OOle.eq (congrArg (fun z => some (Obj.mk true true (.slS z) 9)) (hcat _ (hza ‹_›))) | exact OOle.eq (congrArg (fun z => some (Obj.mk true true (.slS z) 9)) (hcat _ (hzb ‹_›))) | exact OOle.eq (own2 hlen1 hlen2) | exact OOle.gone _)
  · have e : besR ls f t c tx false = chNo := if_neg (fun x => hb x.1)
    rw [e]
    refine Pure.ofT tab2_ok Try.func44 rfl rfl [.cell 12 47, .tmp 13] rfl (by decide) rfl ⟨97, 7, (.node (.node (.node (.node (.node (.node (.node (.leaf (.slS ls)) (J 0)) (J 1)) (J 2)) (J 3)) (.node (.node (.node (.node (.leaf (.str tx)) (J 0)) (J 1)) (J 2)) (J 3))) (.node (.node (.node (.node (.node (.leaf (.int .i64 t)) (J 0)) (J 1)) (J 2)) (J 3)) (J 4))) (.node (.node (.node (.node (.node (.node (.leaf (.int .i64 f)) (J 0)) (J 1)) (J 2)) (J 3)) (.node (.node (.node (.node (.leaf (.bool false)) (J 0)) (J 1)) (J 2)) (J 3))) (.node (.node (.node (.node (.node (.leaf (.int .i64 c)) (J 0)) (J 1)) (J 2)) (J 3)) (J 4)))), (OO 7)⟩ (by kernel_rfl) (by kernel_rfl) ?_
    repeat' (first
      | refine allProp_T ?_
      | exact trivial
      | (refine URun.id ?_; first
          | refine URun.nil ?_
          | refine URun.many tabs2 rfl rfl (by kernel_rfl) ?_ ?_
          | refine URun.same tabs2 rfl rfl rfl ?_
          | refine URun.same2 tabs2 rfl rfl rfl ?_
          | refine URun.split tabs2 rfl rfl rfl rfl (fun h => ?_) (fun h => ?_))
      | (refine TRun.id ?_; first
          | refine TRun.nil ?_
          | refine TRun.many rfl rfl (by kernel_rfl) ?_ ?_
          | refine TRun.same rfl rfl rfl ?_
          | refine TRun.same2 rfl rfl rfl ?_
          | refine TRun.split rfl rfl rfl rfl (fun h => ?_) (fun h => ?_))
      | (refine HoldsT.id ?_; first
          | refine HoldsT.seq ?_
          | refine HoldsT.regionU ?_
          | refine HoldsT.drawn tabs2 ?_
          | refine HoldsT.yes rfl ?_
          | refine HoldsT.no rfl ?_
          | refine HoldsT.cond rfl (fun h => ?_) (fun h => ?_)
          | refine HoldsT.block ?_
          | refine HoldsT.ret ?_
          | refine HoldsT.skip ?_
          | refine HoldsT.exit ?_)
      | (refine okTr_intro ?_; kernel_rfl)
      | exact absurd rfl h
      | refine allProp_C ?_ ?_
      | refine And.intro ?_ ?_
      | omega
      | (show _ < List.length _; omega)
      | exact rowlen_intro rfl
      | exact lenEq_intro rfl
      | exact Nat.le_of_ble_eq_true rfl
      | (simp only [AV.rowlenD, AV.rowlen, AV.ncells, mulSz, toN, Option.map_some, Option.map_none, cutL, List.length_take, List.length_drop, List.length_append, List.length_cons, List.length_nil, List.length_set, Option.some.injEq, Int.reduceToNat] <;> omega))
    all_goals first
      | exact FinC.t (y := .tup [.agg [.int .i64 _, .nilsl, .nilsl], .bool _]) rfl rfl ⟨⟨trivial, trivial, trivial, trivial⟩, trivial, trivial⟩ noLeC
      | (exfalso; exact hb ⟨by omega, by omega, by omega, by omega, by omega⟩)

end Go.Proofs.Ytefbgdnobnemkaa.AM
