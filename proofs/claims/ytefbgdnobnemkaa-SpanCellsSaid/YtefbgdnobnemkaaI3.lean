/-
  The cells of a text: the law.
-/
import Derived.Test.YtefbgdnobnemkaaI2
set_option linter.unusedSimpArgs false
set_option linter.unusedVariables false
set_option linter.unusedSectionVars false
namespace Go.Proofs.Ytefbgdnobnemkaa.AM
open Go Go.RowKit

theorem all_sum (ls : List (List UInt8)) : ∀ m : Nat, m ≤ ls.length → (CellsIt.all (fun j => ls.getD j []) m).length = sumL (ls.take m)
  | 0, _ => by simp [CellsIt.all, sumL]
  | m + 1, h => by
    have ih := all_sum ls m (by omega)
    have e : CellsIt.all (fun j => ls.getD j []) (m + 1) = CellsIt.all (fun j => ls.getD j []) m ++ CellsIt.row (fun j => ls.getD j []) m := by simp [CellsIt.all, List.range_succ]
    rw [e, List.length_append, CellsIt.row_len, ih, sumL_take ls m (by omega)]
theorem Pure.callsIn {P : Program} {f : FuncId} {args : List AV} {r : AV} (h : Pure P f args r) (n : Nat) (A : Nat → Prop) (w : World) (vs : Array Value) (h1 : ∀ b, A b → b < w.heap.size) (h2 : vs.size = args.length) (h3 : ∀ i x, args[i]? = some x → R noRho A w (vs.getD i undef) x) :
    CallsIn Fence.wide n P f vs w fun e w' => ∃ v, e = .returned v ∧ R noRho (fun b => A b ∨ (w.heap.size ≤ b ∧ b < w'.heap.size)) w' v r ∧ Below w.heap.size w w' := callsIn_wide.2 (h.2.2 A w vs h1 h2 h3)
theorem p6t (ls : List (List UInt8)) (k : Int) (hk : inK .u8 k) (hok : lightL ls = true) (k31 : Pure Try.prog 31 [.slS ls] (.bool true)) : Pure Try.prog 6 [.slS ls, .int .u8 k] (.bool true) := by
  have hk0 : 0 ≤ k ∧ k ≤ 255 := hk
  have hl : ls.length ≤ 40 ∧ sumL ls ≤ 1200 := by
    simp only [lightL, Bool.and_eq_true, decide_eq_true_eq] at hok
    exact ⟨hok.1.1, hok.1.2⟩
  have hr : ∀ n : Nat, (ls.getD n []).length ≤ 2000 := fun n => by
    by_cases h0 : 0 < (ls.length : Int)
    · have := (light_len (ls := ls) (by rw [hok, decide_eq_true h0]; rfl)).2.2 n
      omega
    · have : ls = [] := List.length_eq_zero_iff.1 (by omega)
      subst this; simp
  have k33 := p33 ls (by omega) (by omega)
  have hsum := all_sum ls ls.length (Nat.le_refl _)
  rw [List.take_length] at hsum
  refine ⟨rfl, ⟨Try.f6, Try.func6, by kernel_rfl, rfl⟩, fun A w vs hA hsz hR => ?_⟩
  obtain ⟨v0, v1, rfl⟩ : ∃ v0 v1, vs = #[v0, v1] := by
    obtain ⟨l⟩ := vs
    match l, hsz with
    | [v0, v1], _ => exact ⟨v0, v1, rfl⟩
  have hv0 : R noRho A w v0 (.slS ls) := hR 0 _ rfl
  have hv1 : v1 = .int .u8 k := R.int_inv (hR 1 _ rfl)
  subst hv1
  have later : ∀ W, Below w.heap.size w W → R noRho A W v0 (.slS ls) := fun W hW => hv0.later (fun _ h => h) (fun b hb => hW.block b (hA b hb)) (fun d hd => by cases hd)
  have q22 : ∀ W, CallsIn Fence.wide 99 Try.prog 22 #[] W fun e W' => e = .returned (.bool true) ∧ Below W.heap.size W W' := fun W =>
    (p22.callsIn 99 (fun _ => False) W #[] (fun _ h => h.elim) rfl (fun i x h => by simp at h)).mono fun e W' ⟨v, he, hv, hb⟩ => ⟨by rw [he, hv.bool_inv], hb⟩
  have one : ∀ W, Below w.heap.size w W → ∀ i x, [AV.slS ls][i]? = some x → R noRho A W ((#[v0] : Array Value).getD i undef) x := fun W hW i x hx => by
    match i, hx with
    | 0, hx => cases hx; exact later W hW
    | i + 1, hx => simp at hx
  have q31 : ∀ W, Below w.heap.size w W → CallsIn Fence.wide 99 Try.prog 31 #[v0] W fun e W' => e = .returned (.bool true) ∧ Below W.heap.size W W' := fun W hW =>
    (k31.callsIn 99 A W #[v0] (fun b h => Nat.lt_of_lt_of_le (hA b h) hW.size) rfl (one W hW)).mono fun e W' ⟨v, he, hv, hb⟩ => ⟨by rw [he, hv.bool_inv], hb⟩
  have q33 : ∀ W, Below w.heap.size w W → CallsIn Fence.wide 99 Try.prog 33 #[v0] W fun e W' => e = .returned (.int .i64 ((CellsIt.all (fun j => ls.getD j []) ls.length).length + ls.length)) ∧ Below W.heap.size W W' := fun W hW =>
    (k33.callsIn 99 A W #[v0] (fun b h => Nat.lt_of_lt_of_le (hA b h) hW.size) rfl (one W hW)).mono fun e W' ⟨v, he, hv, hb⟩ => ⟨by rw [he, hv.int_inv, hsum, sizeL, Int.natCast_add], hb⟩
  refine Calls.mono (callsIn_wide.1 (?_ : CallsIn Fence.wide 100 Try.prog 6 #[v0, .int .u8 k] w fun e W' => e = .returned (.bool true) ∧ Below w.heap.size w W')) fun e W' ⟨he, hb⟩ => ⟨_, he, .bool true, hb⟩
  rcases R.row_inv (n := ls.length) rfl hv0 with ⟨rfl, h0⟩ | ⟨b, off, cap, us, rfl, hAb, hcap, h1, h2, h3⟩
  · rw [h0] at q33
    exact CellsIt.law_in 0 0 0 0 k (fun j => ls.getD j []) none (fun h => by omega) (by omega) hr w (fun h => by omega) (fun j h => by omega) hk0 q22 q31 q33
  · refine CellsIt.law_in b off cap ls.length k (fun j => ls.getD j []) (some ⟨b, off, none⟩) (fun _ => rfl) (by omega) hr w (fun _ => hA b hAb) (fun j hj => ?_) hk0 q22 q31 q33
    have hc : (AV.slS ls).cell? j = some (.str (ls.getD j [])) := by
      simp only [AV.cell?, List.getElem?_eq_getElem hj, Option.map_some, List.getD_eq_getElem?_getD, Option.getD_some]
    rw [h1 j _ hc, (h2 j _ hc).str_inv]
set_option maxRecDepth 10000 in
set_option maxHeartbeats 8000000 in
theorem p6 (ls : List (List UInt8)) (k : Int) (hL : ls.length ≤ 140737488355328) (hB : ∀ n : Nat, (ls.getD n []).length ≤ 140737488355328) (hk : inK .u8 k) : Pure Try.prog 6 [.slS ls, .int .u8 k] (.bool true) := by
  have k31 := p31 ls hL hB
  cases hok : lightL ls with
  | true =>
    rw [hok] at k31
    exact p6t ls k hk hok k31
  | false =>
    rw [hok] at k31
    refine Pure.ofT tab_ok Try.func6 rfl rfl [.cell 4 4] rfl (by decide) rfl ⟨89, 7, (.node (.node (.node (.node (.node (.node (.node (.leaf (.slS ls)) (J 0)) (J 1)) (J 2)) (J 3)) (J 4)) (J 5)) (.node (.node (.node (.node (.node (.node (.leaf (.int .u8 k)) (J 0)) (J 1)) (J 2)) (J 3)) (J 4)) (J 5))), (OO 7)⟩ (by kernel_rfl) (by kernel_rfl) ?_
    repeat' (first
      | refine allProp_T ?_
      | exact trivial
      | (refine URun.id ?_; first
          | refine URun.nil ?_
          | refine URun.many tabs rfl rfl (by kernel_rfl) ?_ ?_
          | (refine URun.toCall 22 rfl ?_; first
            | refine URun.call tabs rfl rfl rfl rfl p22 rfl rfl ?_ rfl ?_)
          | (refine URun.toCall 31 rfl ?_; first
            | refine URun.call tabs rfl rfl rfl rfl k31 rfl rfl ?_ rfl ?_)
          | refine URun.same tabs rfl rfl rfl ?_
          | refine URun.same2 tabs rfl rfl rfl ?_
          | refine URun.split tabs rfl rfl rfl rfl (fun h => ?_) (fun h => ?_))
      | (refine TRun.id ?_; first
          | refine TRun.nil ?_
          | refine TRun.many rfl rfl (by kernel_rfl) ?_ ?_
          | (refine TRun.toCall 22 rfl ?_; first
            | refine TRun.call rfl rfl rfl rfl p22 rfl rfl ?_ rfl ?_)
          | (refine TRun.toCall 31 rfl ?_; first
            | refine TRun.call rfl rfl rfl rfl k31 rfl rfl ?_ rfl ?_)
          | refine TRun.same rfl rfl rfl ?_
          | refine TRun.same2 rfl rfl rfl ?_
          | refine TRun.split rfl rfl rfl rfl (fun h => ?_) (fun h => ?_))
      | (refine HoldsT.id ?_; first
          | refine HoldsT.seq ?_
          | refine HoldsT.regionU ?_
          | refine HoldsT.drawn tabs ?_
          | refine HoldsT.yes rfl ?_
          | refine HoldsT.no rfl ?_
          | refine HoldsT.cond rfl (fun h => ?_) (fun h => ?_)
          | refine HoldsT.block ?_
          | refine HoldsT.ret ?_
          | refine HoldsT.skip ?_
          | refine HoldsT.exit ?_)
      | (refine okTr_intro ?_; kernel_rfl)
      | exact absurd rfl h
      | refine allProp_C ?_ ?_
      | refine And.intro ?_ ?_
      | omega
      | (show _ < List.length _; omega)
      | exact rowlen_intro rfl
      | exact lenEq_intro rfl
      | exact Nat.le_of_ble_eq_true rfl
      | (simp only [AV.rowlenD, AV.rowlen, AV.ncells, mulSz, toN, Option.map_some, Option.map_none, cutL, List.length_take, List.length_drop, List.length_append, List.length_cons, List.length_nil, List.length_set, Option.some.injEq, Int.reduceToNat] <;> omega))
    all_goals exact FinC.te (y := .bool true) rfl rfl trivial rfl

end Go.Proofs.Ytefbgdnobnemkaa.AM
