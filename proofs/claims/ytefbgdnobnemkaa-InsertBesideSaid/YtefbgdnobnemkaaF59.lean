/-
  A text that comes into lines.
-/
import Derived.Test.YtefbgdnobnemkaaF46
import Derived.Test.YtefbgdnobnemkaaF32
set_option linter.unusedSimpArgs false
set_option linter.unusedVariables false
set_option linter.unusedSectionVars false
namespace Go.Proofs.Ytefbgdnobnemkaa.AM
open Go Go.RowKit

/-- A text that comes into a line at a column. -/
def insL (s : List UInt8) (c : Int) (tx : List UInt8) (fill : Bool) : List UInt8 :=
  let s' := if fill = true then s ++ spc (c - (s.length : Int)) else s
  if c ≤ (s'.length : Int) then s'.take c.toNat ++ tx ++ s'.drop c.toNat else s'
def rowI (ls : List (List UInt8)) (c : Int) (tx : List UInt8) (fill : Bool) (i : Int) : List UInt8 := insL (ls.getD i.toNat []) c tx fill
def besR (ls : List (List UInt8)) (f t c : Int) (tx : List UInt8) (fill : Bool) : ChR :=
  if (0 ≤ f ∧ f ≤ t ∧ t < ls.length ∧ 0 ≤ c ∧ c ≤ 4096) ∧ noLF tx = true then ⟨true, f, midL ls f (t - f + 1), eachL (rowI ls c tx fill) f (t - f + 1).toNat⟩ else chNo
theorem spc_none {n : Int} (h : n ≤ 0) : spc n = [] := by
  unfold spc; rw [show n.toNat = 0 by omega]; rfl

def sh43true (ls old out : List (List UInt8)) (tx : List UInt8) (f c j : Int) : TS := ⟨93, 7, (.node (.node (.node (.node (.node (.node (.node (.leaf (.slS ls)) (J 0)) (J 1)) (J 2)) (J 3)) (.node (.node (.node (.node (.leaf (.str tx)) (J 0)) (J 1)) (.node (J 1) (.node (.leaf (.slS old)) (J 0)))) (.node (.node (.node (.leaf (.ptr 12 0)) (J 0)) (J 1)) (J 2)))) (.node (J 4) (.node (.node (J 2) (.node (J 1) (.node (.leaf (.int .i64 j)) (J 0)))) (.node (.node (.node (.leaf (.ptr 14 0)) (J 0)) (J 1)) (J 2))))) (.node (.node (J 4) (.node (.node (.node (.node (.leaf (.bool true)) (J 0)) (J 1)) (.node (J 1) (.node (.leaf (.int .i64 (old.length : Int))) (J 0)))) (J 3))) (.node (.node (.node (.node (.node (.leaf (.int .i64 c)) (J 0)) (J 1)) (J 2)) (J 3)) (J 4)))), (.node (.node (.node (OO 4) (.node (OO 3) (.node (.node (.node (.leaf (some ⟨true, false, .agg [.int .i64 0, .nilsl, .nilsl], 47⟩)) (OO 0)) (OO 1)) (OO 2)))) (.node (OO 4) (.node (OO 3) (.node (.node (.node (.leaf (some ⟨true, false, .agg [.int .i64 f, .slS old, .own 89 out.length], 47⟩)) (OO 0)) (OO 1)) (OO 2))))) (.node (.node (.node (OO 3) (.node (OO 2) (.node (.node (OO 0) (.leaf (some ⟨true, true, .slS out, 9⟩))) (OO 1)))) (OO 4)) (OO 5)))⟩
set_option maxRecDepth 10000 in
set_option maxHeartbeats 8000000 in
theorem p43_true (ls : List (List UInt8)) (f t c : Int) (tx : List UInt8) (hL : ls.length ≤ 1000000000) (hB : ∀ n : Nat, (ls.getD n []).length ≤ 1000000000) (hx : tx.length ≤ 1000000000) : Pure Try.prog 43 [.slS ls, .int .i64 f, .int .i64 t, .int .i64 c, .str tx, .bool true] (besR ls f t c tx true).av := by
  have k65 := p65 tx 10
  rw [any_noLF] at k65
  by_cases hok : (0 ≤ f ∧ f ≤ t ∧ t < ls.length ∧ 0 ≤ c ∧ c ≤ 4096) ∧ noLF tx = true
  · have e : besR ls f t c tx true = ⟨true, f, midL ls f (t - f + 1), eachL (rowI ls c tx true) f (t - f + 1).toNat⟩ := if_pos hok
    rw [e]
    obtain ⟨h1, h2⟩ := hok
    rw [h2] at k65
    have em : midL ls f (t - f + 1) = cutL ls (some f.toNat) (some (t + 1).toNat) := by
      unfold midL; rw [show f + (t - f + 1) = t + 1 by omega]
    have hol := mid_len (ls := ls) (a := f) (n := t - f + 1) h1.1 (by omega) (by omega)
    have hog : ∀ j : Int, 0 ≤ j → j < t - f + 1 → (midL ls f (t - f + 1)).getD j.toNat [] = ls.getD (f + j).toNat [] := fun j g1 g2 => by
      rw [mid_map (by omega) (by omega) (by omega), List.getD_eq_getElem?_getD, List.getElem?_map, List.getElem?_range (by omega)]
      simp only [Option.map_some, Option.getD_some, show (j.toNat : Int) = j by omega]
    rw [em] at hol hog ⊢
    have k66 := p66 (cutL ls (some f.toNat) (some (t + 1).toNat)) (by omega)
    refine Pure.ofT tab2_ok Try.func43 rfl rfl [.cell 12 47, .tmp 13] rfl (by decide) rfl ⟨93, 7, (.node (.node (.node (.node (.node (.node (.node (.leaf (.slS ls)) (J 0)) (J 1)) (J 2)) (J 3)) (.node (.node (.node (.node (.leaf (.str tx)) (J 0)) (J 1)) (J 2)) (J 3))) (.node (.node (.node (.node (.node (.leaf (.int .i64 t)) (J 0)) (J 1)) (J 2)) (J 3)) (J 4))) (.node (.node (.node (.node (.node (.node (.leaf (.int .i64 f)) (J 0)) (J 1)) (J 2)) (J 3)) (.node (.node (.node (.node (.leaf (.bool true)) (J 0)) (J 1)) (J 2)) (J 3))) (.node (.node (.node (.node (.node (.leaf (.int .i64 c)) (J 0)) (J 1)) (J 2)) (J 3)) (J 4)))), (OO 7)⟩ (by kernel_rfl) (by kernel_rfl) ?_
    repeat' (first
      | refine allProp_T ?_
      | exact trivial
      | (refine URun.id ?_; first
          | refine URun.nil ?_
          | refine URun.many tabs2 rfl rfl (by kernel_rfl) ?_ ?_
          | (refine URun.toCall 65 rfl ?_; first
            | refine URun.call tabs2 rfl rfl rfl rfl k65 rfl rfl ?_ rfl ?_)
          | (refine URun.toCall 66 rfl ?_; first
            | refine URun.call tabs2 rfl rfl rfl rfl k66 rfl rfl ?_ rfl ?_)
          | refine URun.same tabs2 rfl rfl rfl ?_
          | refine URun.same2 tabs2 rfl rfl rfl ?_
          | refine URun.yes tabs2 rfl rfl (by omega) rfl ?_
          | refine URun.no tabs2 rfl rfl (by omega) rfl ?_
          | refine URun.split tabs2 rfl rfl rfl rfl (fun h => ?_) (fun h => ?_))
      | (refine TRun.id ?_; first
          | refine TRun.nil ?_
          | refine TRun.many rfl rfl (by kernel_rfl) ?_ ?_
          | (refine TRun.toCall 65 rfl ?_; first
            | refine TRun.call rfl rfl rfl rfl k65 rfl rfl ?_ rfl ?_)
          | (refine TRun.toCall 66 rfl ?_; first
            | refine TRun.call rfl rfl rfl rfl k66 rfl rfl ?_ rfl ?_)
          | refine TRun.same rfl rfl rfl ?_
          | refine TRun.same2 rfl rfl rfl ?_
          | refine TRun.yes rfl rfl (by omega) rfl ?_
          | refine TRun.no rfl rfl (by omega) rfl ?_
          | refine TRun.split rfl rfl rfl rfl (fun h => ?_) (fun h => ?_))
      | (refine HoldsT.id ?_; first
          | refine HoldsT.seq ?_
          | refine HoldsT.regionU ?_
          | refine HoldsT.drawn tabs2 ?_
          | refine HoldsT.yes rfl ?_
          | refine HoldsT.no rfl ?_
          | refine HoldsT.cond rfl (fun h => ?_) (fun h => ?_)
          | refine HoldsT.block ?_
          | refine HoldsT.ret ?_
          | refine HoldsT.skip ?_
          | refine HoldsT.exit ?_)
      | (refine okTr_intro ?_; kernel_rfl)
      | exact absurd rfl h
      | refine allProp_C ?_ ?_
      | refine And.intro ?_ ?_
      | omega
      | (show _ < List.length _; omega)
      | exact rowlen_intro rfl
      | exact lenEq_intro rfl
      | exact Nat.le_of_ble_eq_true rfl
      | (simp only [AV.rowlenD, AV.rowlen, AV.ncells, mulSz, toN, Option.map_some, Option.map_none, cutL, List.length_take, List.length_drop, List.length_append, List.length_cons, List.length_nil, List.length_set, Option.some.injEq, Int.reduceToNat] <;> omega))
    generalize cutL ls (some f.toNat) (some (t + 1).toNat) = old at *
    refine HoldsT.loop (fun x : Int × List (List UInt8) => sh43true ls old x.2 tx f c x.1) (fun x => (t - f + 1 - x.1).toNat) (fun x => 0 ≤ x.1 ∧ x.1 ≤ t - f + 1 ∧ x.2 = eachL (rowI ls c tx true) f x.1.toNat) (0, []) ?_ ?_ (fun _ => by kernel_rfl) ?_
    · refine (WeakT.canonF 14 2 89 9 (.slS []) rfl rfl rfl rfl rfl (by kernel_rfl) rfl rfl).trans ?_
      refine WeakT.of ?_ ?_ (by kernel_rfl)
      · repeat' (first | exact TTle.junk _ _ | exact TTle.same _ | refine TTle.node ?_ ?_ | refine TTle.leaf ?_ | exact AVle.junk _ | exact AVle.rfl' rfl | exact AVle.nilS | exact AVle.nilB)
      · repeat' (first | exact OOle.none _ _ | exact OOle.same _ | refine OOle.node ?_ ?_ | exact OOle.leaf _ | exact OOle.gone _)
    · exact ⟨by simp, by simp only; omega, rfl⟩
    · intro x hx
      obtain ⟨j, out⟩ := x
      obtain ⟨g1, g2, g3⟩ := hx
      simp only at g1 g2 g3
      have hout : out.length = j.toNat := by rw [g3]; exact eachL_length _ _ _
      have hlj := hB (f + j).toNat
      have hoj : j < t - f + 1 → old.getD j.toNat [] = ls.getD (f + j).toNat [] := fun h => hog j g1 h
      have hob : (old.getD j.toNat []).length ≤ 1000000000 := by
        by_cases h : j < t - f + 1
        · rw [hoj h]; exact hlj
        · rw [List.getD_eq_getElem?_getD, List.getElem?_eq_none (by omega)]; simp
      have k67 : ((old.getD j.toNat []).length : Int) < c → Pure Try.prog 67 [.str [32], .int .i64 (c - ((old.getD j.toNat []).length : Int))] (.str (spc (c - ((old.getD j.toNat []).length : Int)))) := fun h => p67s _ (by omega) (by omega)
      have hsl := spc_len (i := c - ((old.getD j.toNat []).length : Int))
      have hsl2 : (old.getD j.toNat [] ++ spc (c - ((old.getD j.toNat []).length : Int))).length = (old.getD j.toNat []).length + (c - ((old.getD j.toNat []).length : Int)).toNat := by rw [List.length_append, hsl]
      show HoldsT Try.prog _ (sh43true ls old out tx f c j) _
      repeat' (first
        | refine allProp_T ?_
        | exact trivial
        | (refine URun.id ?_; first
            | refine URun.nil ?_
            | refine URun.many tabs2 rfl rfl (by kernel_rfl) ?_ ?_
            | (refine URun.toCall 67 rfl ?_; first
              | refine URun.call tabs2 rfl rfl rfl rfl (k67 ‹_›) rfl rfl ?_ rfl ?_)
            | refine URun.same tabs2 rfl rfl rfl ?_
            | refine URun.same2 tabs2 rfl rfl rfl ?_
            | refine URun.yes tabs2 rfl rfl (by omega) rfl ?_
            | refine URun.no tabs2 rfl rfl (by omega) rfl ?_
            | refine URun.split tabs2 rfl rfl rfl rfl (fun h => ?_) (fun h => ?_))
        | (refine TRun.id ?_; first
            | refine TRun.nil ?_
            | refine TRun.many rfl rfl (by kernel_rfl) ?_ ?_
            | (refine TRun.toCall 67 rfl ?_; first
              | refine TRun.call rfl rfl rfl rfl (k67 ‹_›) rfl rfl ?_ rfl ?_)
            | refine TRun.same rfl rfl rfl ?_
            | refine TRun.same2 rfl rfl rfl ?_
            | refine TRun.yes rfl rfl (by omega) rfl ?_
            | refine TRun.no rfl rfl (by omega) rfl ?_
            | refine TRun.split rfl rfl rfl rfl (fun h => ?_) (fun h => ?_))
        | (refine HoldsT.id ?_; first
            | refine HoldsT.seq ?_
            | refine HoldsT.regionU ?_
            | refine HoldsT.drawn tabs2 ?_
            | refine HoldsT.yes rfl ?_
            | refine HoldsT.no rfl ?_
            | refine HoldsT.cond rfl (fun h => ?_) (fun h => ?_)
            | refine HoldsT.block ?_
            | refine HoldsT.ret ?_
            | refine HoldsT.skip ?_
            | refine HoldsT.exit ?_)
        | (refine okTr_intro ?_; kernel_rfl)
        | exact absurd rfl h
        | refine allProp_C ?_ ?_
        | refine And.intro ?_ ?_
        | omega
        | (show _ < List.length _; omega)
        | exact rowlen_intro rfl
        | exact lenEq_intro rfl
        | exact Nat.le_of_ble_eq_true rfl
        | (simp only [AV.rowlenD, AV.rowlen, AV.ncells, mulSz, toN, Option.map_some, Option.map_none, cutL, List.length_take, List.length_drop, List.length_append, List.length_cons, List.length_nil, List.length_set, Option.some.injEq, Int.reduceToNat] <;> omega))
      rotate_right
      · refine FinC.te (y := .tup [.agg [.int .i64 _, .slS _, .slS _], .bool _]) rfl rfl ⟨⟨trivial, trivial, ⟨rfl, trivial⟩, trivial⟩, trivial, trivial⟩ ?_
        rw [g3, show j = t - f + 1 by omega]; rfl
      all_goals
        have hri : insL (old.getD j.toNat []) c tx true = rowI ls c tx true (f + (j.toNat : Int)) := by
          unfold rowI; rw [show f + (j.toNat : Int) = f + j by omega, ← hoj (by omega)]
        have hcat : ∀ z, z = insL (old.getD j.toNat []) c tx true → out ++ [z] = eachL (rowI ls c tx true) f (j.toNat + 1) := fun z hz => by rw [hz, hri, g3]; rfl
        have hza : ((old.getD j.toNat []).length : Int) < c → cutL (old.getD j.toNat [] ++ spc (c - ((old.getD j.toNat []).length : Int))) none (some c.toNat) ++ tx ++ cutL (old.getD j.toNat [] ++ spc (c - ((old.getD j.toNat []).length : Int))) (some c.toNat) none = insL (old.getD j.toNat []) c tx true := fun h => by
          unfold insL; rw [if_pos rfl]; dsimp only; rw [if_pos (by omega)]; rfl
        have hzb : ¬ ((old.getD j.toNat []).length : Int) < c → cutL (old.getD j.toNat []) none (some c.toNat) ++ tx ++ cutL (old.getD j.toNat []) (some c.toNat) none = insL (old.getD j.toNat []) c tx true := fun h => by
          unfold insL; rw [if_pos rfl, spc_none (by omega), List.append_nil]; (try dsimp only); rw [if_pos (by omega)]; rfl
        have hzc : ((old.getD j.toNat []).length : Int) < c → old.getD j.toNat [] = insL (old.getD j.toNat []) c tx false := fun h => by
          unfold insL; rw [if_neg (show ¬ (false = true) by decide)]; (try dsimp only); rw [if_neg (by omega)]
        have hlen : out.length + 1 = (eachL (rowI ls c tx true) f (j.toNat + 1)).length := by rw [eachL_length, hout]
        refine ⟨(j + 1, eachL (rowI ls c tx true) f (j.toNat + 1)), ⟨by simp only; omega, by simp only; omega, by simp only; omega, by simp only; rw [toNat_succ g1]⟩, ?_⟩
        refine WeakT.of ?_ ?_ (by kernel_rfl)
        · repeat' (first | exact TTle.junk _ _ | exact TTle.same _ | refine TTle.node ?_ ?_ | refine TTle.leaf ?_ | exact AVle.junk _ | exact AVle.rfl' rfl)
        · repeat' (first | exact OOle.none _ _ | exact OOle.same _ | refine OOle.node ?_ ?_ | exact OOle.leaf _ | exact OOle.eq (congrArg (fun z => some (Obj.mk true true (.slS z) 9)) (hcat _ (hza ‹_›))) | exact OOle.eq (congrArg (fun z => some (Obj.mk true true (.slS z) 9)) (hcat _ (hzb ‹_›))) | exact OOle.eq (congrArg (fun z => some (Obj.mk true true (.slS z) 9)) (hcat _ (hzc ‹_›))) | exact OOle.eq (congrArg (fun z => some (Obj.mk true false (.agg [.int .i64 f, .slS old, .own 89 z]) 47)) hlen) | exact OOle.gone _)

  · have e : besR ls f t c tx true = chNo := if_neg hok
    rw [e]
    have hok' : 0 ≤ f → f ≤ t → t < ls.length → 0 ≤ c → c ≤ 4096 → noLF tx = true → False := fun a b c d e g => hok ⟨⟨a, b, c, d, e⟩, g⟩
    generalize noLF tx = g1 at *
    refine Pure.ofT tab2_ok Try.func43 rfl rfl [.cell 12 47, .tmp 13] rfl (by decide) rfl ⟨93, 7, (.node (.node (.node (.node (.node (.node (.node (.leaf (.slS ls)) (J 0)) (J 1)) (J 2)) (J 3)) (.node (.node (.node (.node (.leaf (.str tx)) (J 0)) (J 1)) (J 2)) (J 3))) (.node (.node (.node (.node (.node (.leaf (.int .i64 t)) (J 0)) (J 1)) (J 2)) (J 3)) (J 4))) (.node (.node (.node (.node (.node (.node (.leaf (.int .i64 f)) (J 0)) (J 1)) (J 2)) (J 3)) (.node (.node (.node (.node (.leaf (.bool true)) (J 0)) (J 1)) (J 2)) (J 3))) (.node (.node (.node (.node (.node (.leaf (.int .i64 c)) (J 0)) (J 1)) (J 2)) (J 3)) (J 4)))), (OO 7)⟩ (by kernel_rfl) (by kernel_rfl) ?_
    repeat' (first
      | refine allProp_T ?_
      | exact trivial
      | (refine URun.id ?_; first
          | refine URun.nil ?_
          | refine URun.many tabs2 rfl rfl (by kernel_rfl) ?_ ?_
          | (refine URun.toCall 65 rfl ?_; first
            | refine URun.callB tabs2 rfl rfl rfl rfl k65 rfl rfl ?_ rfl rfl (fun h => ?_) (fun h => ?_))
          | refine URun.same tabs2 rfl rfl rfl ?_
          | refine URun.same2 tabs2 rfl rfl rfl ?_
          | refine URun.split tabs2 rfl rfl rfl rfl (fun h => ?_) (fun h => ?_))
      | (refine TRun.id ?_; first
          | refine TRun.nil ?_
          | refine TRun.many rfl rfl (by kernel_rfl) ?_ ?_
          | (refine TRun.toCall 65 rfl ?_; first
            | refine TRun.callB rfl rfl rfl rfl k65 rfl rfl ?_ rfl rfl (fun h => ?_) (fun h => ?_))
          | refine TRun.same rfl rfl rfl ?_
          | refine TRun.same2 rfl rfl rfl ?_
          | refine TRun.split rfl rfl rfl rfl (fun h => ?_) (fun h => ?_))
      | (refine HoldsT.id ?_; first
          | refine HoldsT.seq ?_
          | refine HoldsT.regionU ?_
          | refine HoldsT.drawn tabs2 ?_
          | refine HoldsT.yes rfl ?_
          | refine HoldsT.no rfl ?_
          | refine HoldsT.cond rfl (fun h => ?_) (fun h => ?_)
          | refine HoldsT.block ?_
          | refine HoldsT.ret ?_
          | refine HoldsT.skip ?_
          | refine HoldsT.exit ?_)
      | (refine okTr_intro ?_; kernel_rfl)
      | exact absurd rfl h
      | refine allProp_C ?_ ?_
      | refine And.intro ?_ ?_
      | omega
      | (show _ < List.length _; omega)
      | exact rowlen_intro rfl
      | exact lenEq_intro rfl
      | exact Nat.le_of_ble_eq_true rfl
      | (simp only [AV.rowlenD, AV.rowlen, AV.ncells, mulSz, toN, Option.map_some, Option.map_none, cutL, List.length_take, List.length_drop, List.length_append, List.length_cons, List.length_nil, List.length_set, Option.some.injEq, Int.reduceToNat] <;> omega))
    all_goals first
      | exact FinC.t (y := .tup [.agg [.int .i64 _, .nilsl, .nilsl], .bool _]) rfl rfl ⟨⟨trivial, trivial, trivial, trivial⟩, trivial, trivial⟩ noLeC
      | (exfalso; refine hok' (by omega) (by omega) (by omega) (by omega) (by omega) ?_; simp_all)

def sh43false (ls old out : List (List UInt8)) (tx : List UInt8) (f c j : Int) : TS := ⟨93, 7, (.node (.node (.node (.node (.node (.node (.node (.leaf (.slS ls)) (J 0)) (J 1)) (J 2)) (J 3)) (.node (.node (.node (.node (.leaf (.str tx)) (J 0)) (J 1)) (.node (J 1) (.node (.leaf (.slS old)) (J 0)))) (.node (.node (.node (.leaf (.ptr 12 0)) (J 0)) (J 1)) (J 2)))) (.node (J 4) (.node (.node (J 2) (.node (J 1) (.node (.leaf (.int .i64 j)) (J 0)))) (.node (.node (.node (.leaf (.ptr 14 0)) (J 0)) (J 1)) (J 2))))) (.node (.node (J 4) (.node (.node (.node (.node (.leaf (.bool false)) (J 0)) (J 1)) (.node (J 1) (.node (.leaf (.int .i64 (old.length : Int))) (J 0)))) (J 3))) (.node (.node (.node (.node (.node (.leaf (.int .i64 c)) (J 0)) (J 1)) (J 2)) (J 3)) (J 4)))), (.node (.node (.node (OO 4) (.node (OO 3) (.node (.node (.node (.leaf (some ⟨true, false, .agg [.int .i64 0, .nilsl, .nilsl], 47⟩)) (OO 0)) (OO 1)) (OO 2)))) (.node (OO 4) (.node (OO 3) (.node (.node (.node (.leaf (some ⟨true, false, .agg [.int .i64 f, .slS old, .own 89 out.length], 47⟩)) (OO 0)) (OO 1)) (OO 2))))) (.node (.node (.node (OO 3) (.node (OO 2) (.node (.node (OO 0) (.leaf (some ⟨true, true, .slS out, 9⟩))) (OO 1)))) (OO 4)) (OO 5)))⟩
set_option maxRecDepth 10000 in
set_option maxHeartbeats 8000000 in
theorem p43_false (ls : List (List UInt8)) (f t c : Int) (tx : List UInt8) (hL : ls.length ≤ 1000000000) (hB : ∀ n : Nat, (ls.getD n []).length ≤ 1000000000) (hx : tx.length ≤ 1000000000) : Pure Try.prog 43 [.slS ls, .int .i64 f, .int .i64 t, .int .i64 c, .str tx, .bool false] (besR ls f t c tx false).av := by
  have k65 := p65 tx 10
  rw [any_noLF] at k65
  by_cases hok : (0 ≤ f ∧ f ≤ t ∧ t < ls.length ∧ 0 ≤ c ∧ c ≤ 4096) ∧ noLF tx = true
  · have e : besR ls f t c tx false = ⟨true, f, midL ls f (t - f + 1), eachL (rowI ls c tx false) f (t - f + 1).toNat⟩ := if_pos hok
    rw [e]
    obtain ⟨h1, h2⟩ := hok
    rw [h2] at k65
    have em : midL ls f (t - f + 1) = cutL ls (some f.toNat) (some (t + 1).toNat) := by
      unfold midL; rw [show f + (t - f + 1) = t + 1 by omega]
    have hol := mid_len (ls := ls) (a := f) (n := t - f + 1) h1.1 (by omega) (by omega)
    have hog : ∀ j : Int, 0 ≤ j → j < t - f + 1 → (midL ls f (t - f + 1)).getD j.toNat [] = ls.getD (f + j).toNat [] := fun j g1 g2 => by
      rw [mid_map (by omega) (by omega) (by omega), List.getD_eq_getElem?_getD, List.getElem?_map, List.getElem?_range (by omega)]
      simp only [Option.map_some, Option.getD_some, show (j.toNat : Int) = j by omega]
    rw [em] at hol hog ⊢
    have k66 := p66 (cutL ls (some f.toNat) (some (t + 1).toNat)) (by omega)
    refine Pure.ofT tab2_ok Try.func43 rfl rfl [.cell 12 47, .tmp 13] rfl (by decide) rfl ⟨93, 7, (.node (.node (.node (.node (.node (.node (.node (.leaf (.slS ls)) (J 0)) (J 1)) (J 2)) (J 3)) (.node (.node (.node (.node (.leaf (.str tx)) (J 0)) (J 1)) (J 2)) (J 3))) (.node (.node (.node (.node (.node (.leaf (.int .i64 t)) (J 0)) (J 1)) (J 2)) (J 3)) (J 4))) (.node (.node (.node (.node (.node (.node (.leaf (.int .i64 f)) (J 0)) (J 1)) (J 2)) (J 3)) (.node (.node (.node (.node (.leaf (.bool false)) (J 0)) (J 1)) (J 2)) (J 3))) (.node (.node (.node (.node (.node (.leaf (.int .i64 c)) (J 0)) (J 1)) (J 2)) (J 3)) (J 4)))), (OO 7)⟩ (by kernel_rfl) (by kernel_rfl) ?_
    repeat' (first
      | refine allProp_T ?_
      | exact trivial
      | (refine URun.id ?_; first
          | refine URun.nil ?_
          | refine URun.many tabs2 rfl rfl (by kernel_rfl) ?_ ?_
          | (refine URun.toCall 65 rfl ?_; first
            | refine URun.call tabs2 rfl rfl rfl rfl k65 rfl rfl ?_ rfl ?_)
          | (refine URun.toCall 66 rfl ?_; first
            | refine URun.call tabs2 rfl rfl rfl rfl k66 rfl rfl ?_ rfl ?_)
          | refine URun.same tabs2 rfl rfl rfl ?_
          | refine URun.same2 tabs2 rfl rfl rfl ?_
          | refine URun.yes tabs2 rfl rfl (by omega) rfl ?_
          | refine URun.no tabs2 rfl rfl (by omega) rfl ?_
          | refine URun.split tabs2 rfl rfl rfl rfl (fun h => ?_) (fun h => ?_))
      | (refine TRun.id ?_; first
          | refine TRun.nil ?_
          | refine TRun.many rfl rfl (by kernel_rfl) ?_ ?_
          | (refine TRun.toCall 65 rfl ?_; first
            | refine TRun.call rfl rfl rfl rfl k65 rfl rfl ?_ rfl ?_)
          | (refine TRun.toCall 66 rfl ?_; first
            | refine TRun.call rfl rfl rfl rfl k66 rfl rfl ?_ rfl ?_)
          | refine TRun.same rfl rfl rfl ?_
          | refine TRun.same2 rfl rfl rfl ?_
          | refine TRun.yes rfl rfl (by omega) rfl ?_
          | refine TRun.no rfl rfl (by omega) rfl ?_
          | refine TRun.split rfl rfl rfl rfl (fun h => ?_) (fun h => ?_))
      | (refine HoldsT.id ?_; first
          | refine HoldsT.seq ?_
          | refine HoldsT.regionU ?_
          | refine HoldsT.drawn tabs2 ?_
          | refine HoldsT.yes rfl ?_
          | refine HoldsT.no rfl ?_
          | refine HoldsT.cond rfl (fun h => ?_) (fun h => ?_)
          | refine HoldsT.block ?_
          | refine HoldsT.ret ?_
          | refine HoldsT.skip ?_
          | refine HoldsT.exit ?_)
      | (refine okTr_intro ?_; kernel_rfl)
      | exact absurd rfl h
      | refine allProp_C ?_ ?_
      | refine And.intro ?_ ?_
      | omega
      | (show _ < List.length _; omega)
      | exact rowlen_intro rfl
      | exact lenEq_intro rfl
      | exact Nat.le_of_ble_eq_true rfl
      | (simp only [AV.rowlenD, AV.rowlen, AV.ncells, mulSz, toN, Option.map_some, Option.map_none, cutL, List.length_take, List.length_drop, List.length_append, List.length_cons, List.length_nil, List.length_set, Option.some.injEq, Int.reduceToNat] <;> omega))
    generalize cutL ls (some f.toNat) (some (t + 1).toNat) = old at *
    refine HoldsT.loop (fun x : Int × List (List UInt8) => sh43false ls old x.2 tx f c x.1) (fun x => (t - f + 1 - x.1).toNat) (fun x => 0 ≤ x.1 ∧ x.1 ≤ t - f + 1 ∧ x.2 = eachL (rowI ls c tx false) f x.1.toNat) (0, []) ?_ ?_ (fun _ => by kernel_rfl) ?_
    · refine (WeakT.canonF 14 2 89 9 (.slS []) rfl rfl rfl rfl rfl (by kernel_rfl) rfl rfl).trans ?_
      refine WeakT.of ?_ ?_ (by kernel_rfl)
      · repeat' (first | exact TTle.junk _ _ | exact TTle.same _ | refine TTle.node ?_ ?_ | refine TTle.leaf ?_ | exact AVle.junk _ | exact AVle.rfl' rfl | exact AVle.nilS | exact AVle.nilB)
      · repeat' (first | exact OOle.none _ _ | exact OOle.same _ | refine OOle.node ?_ ?_ | exact OOle.leaf _ | exact OOle.gone _)
    · exact ⟨by simp, by simp only; omega, rfl⟩
    · intro x hx
      obtain ⟨j, out⟩ := x
      obtain ⟨g1, g2, g3⟩ := hx
      simp only at g1 g2 g3
      have hout : out.length = j.toNat := by rw [g3]; exact eachL_length _ _ _
      have hlj := hB (f + j).toNat
      have hoj : j < t - f + 1 → old.getD j.toNat [] = ls.getD (f + j).toNat [] := fun h => hog j g1 h
      have hob : (old.getD j.toNat []).length ≤ 1000000000 := by
        by_cases h : j < t - f + 1
        · rw [hoj h]; exact hlj
        · rw [List.getD_eq_getElem?_getD, List.getElem?_eq_none (by omega)]; simp
      have k67 : ((old.getD j.toNat []).length : Int) < c → Pure Try.prog 67 [.str [32], .int .i64 (c - ((old.getD j.toNat []).length : Int))] (.str (spc (c - ((old.getD j.toNat []).length : Int)))) := fun h => p67s _ (by omega) (by omega)
      have hsl := spc_len (i := c - ((old.getD j.toNat []).length : Int))
      have hsl2 : (old.getD j.toNat [] ++ spc (c - ((old.getD j.toNat []).length : Int))).length = (old.getD j.toNat []).length + (c - ((old.getD j.toNat []).length : Int)).toNat := by rw [List.length_append, hsl]
      show HoldsT Try.prog _ (sh43false ls old out tx f c j) _
      repeat' (first
        | refine allProp_T ?_
        | exact trivial
        | (refine URun.id ?_; first
            | refine URun.nil ?_
            | refine URun.many tabs2 rfl rfl (by kernel_rfl) ?_ ?_
            | (refine URun.toCall 67 rfl ?_; first
              | refine URun.call tabs2 rfl rfl rfl rfl (k67 ‹_›) rfl rfl ?_ rfl ?_)
            | refine URun.same tabs2 rfl rfl rfl ?_
            | refine URun.same2 tabs2 rfl rfl rfl ?_
            | refine URun.yes tabs2 rfl rfl (by omega) rfl ?_
            | refine URun.no tabs2 rfl rfl (by omega) rfl ?_
            | refine URun.split tabs2 rfl rfl rfl rfl (fun h => ?_) (fun h => ?_))
        | (refine TRun.id ?_; first
            | refine TRun.nil ?_
            | refine TRun.many rfl rfl (by kernel_rfl) ?_ ?_
            | (refine TRun.toCall 67 rfl ?_; first
              | refine TRun.call rfl rfl rfl rfl (k67 ‹_›) rfl rfl ?_ rfl ?_)
            | refine TRun.same rfl rfl rfl ?_
            | refine TRun.same2 rfl rfl rfl ?_
            | refine TRun.yes rfl rfl (by omega) rfl ?_
            | refine TRun.no rfl rfl (by omega) rfl ?_
            | refine TRun.split rfl rfl rfl rfl (fun h => ?_) (fun h => ?_))
        | (refine HoldsT.id ?_; first
            | refine HoldsT.seq ?_
            | refine HoldsT.regionU ?_
            | refine HoldsT.drawn tabs2 ?_
            | refine HoldsT.yes rfl ?_
            | refine HoldsT.no rfl ?_
            | refine HoldsT.cond rfl (fun h => ?_) (fun h => ?_)
            | refine HoldsT.block ?_
            | refine HoldsT.ret ?_
            | refine HoldsT.skip ?_
            | refine HoldsT.exit ?_)
        | (refine okTr_intro ?_; kernel_rfl)
        | exact absurd rfl h
        | refine allProp_C ?_ ?_
        | refine And.intro ?_ ?_
        | omega
        | (show _ < List.length _; omega)
        | exact rowlen_intro rfl
        | exact lenEq_intro rfl
        | exact Nat.le_of_ble_eq_true rfl
        | (simp only [AV.rowlenD, AV.rowlen, AV.ncells, mulSz, toN, Option.map_some, Option.map_none, cutL, List.length_take, List.length_drop, List.length_append, List.length_cons, List.length_nil, List.length_set, Option.some.injEq, Int.reduceToNat] <;> omega))
      rotate_right
      · refine FinC.te (y := .tup [.agg [.int .i64 _, .slS _, .slS _], .bool _]) rfl rfl ⟨⟨trivial, trivial, ⟨rfl, trivial⟩, trivial⟩, trivial, trivial⟩ ?_
        rw [g3, show j = t - f + 1 by omega]; rfl
      all_goals
        have hri : insL (old.getD j.toNat []) c tx false = rowI ls c tx false (f + (j.toNat : Int)) := by
          unfold rowI; rw [show f + (j.toNat : Int) = f + j by omega, ← hoj (by omega)]
        have hcat : ∀ z, z = insL (old.getD j.toNat []) c tx false → out ++ [z] = eachL (rowI ls c tx false) f (j.toNat + 1) := fun z hz => by rw [hz, hri, g3]; rfl
        have hza : ((old.getD j.toNat []).length : Int) < c → cutL (old.getD j.toNat [] ++ spc (c - ((old.getD j.toNat []).length : Int))) none (some c.toNat) ++ tx ++ cutL (old.getD j.toNat [] ++ spc (c - ((old.getD j.toNat []).length : Int))) (some c.toNat) none = insL (old.getD j.toNat []) c tx true := fun h => by
          unfold insL; rw [if_pos rfl]; dsimp only; rw [if_pos (by omega)]; rfl
        have hzb : ¬ ((old.getD j.toNat []).length : Int) < c → cutL (old.getD j.toNat []) none (some c.toNat) ++ tx ++ cutL (old.getD j.toNat []) (some c.toNat) none = insL (old.getD j.toNat []) c tx false := fun h => by
          unfold insL; rw [if_neg (show ¬ (false = true) by decide)]; (try dsimp only); rw [if_pos (by omega)]; rfl
        have hzc : ((old.getD j.toNat []).length : Int) < c → old.getD j.toNat [] = insL (old.getD j.toNat []) c tx false := fun h => by
          unfold insL; rw [if_neg (show ¬ (false = true) by decide)]; (try dsimp only); rw [if_neg (by omega)]
        have hlen : out.length + 1 = (eachL (rowI ls c tx false) f (j.toNat + 1)).length := by rw [eachL_length, hout]
        refine ⟨(j + 1, eachL (rowI ls c tx false) f (j.toNat + 1)), ⟨by simp only; omega, by simp only; omega, by simp only; omega, by simp only; rw [toNat_succ g1]⟩, ?_⟩
        refine WeakT.of ?_ ?_ (by kernel_rfl)
        · repeat' (first | exact TTle.junk _ _ | exact TTle.same _ | refine TTle.node ?_ ?_ | refine TTle.leaf ?_ | exact AVle.junk _ | exact AVle.rfl' rfl)
        · repeat' (first | exact OOle.none _ _ | exact OOle.same _ | refine OOle.node ?_ ?_ | exact OOle.leaf _ | exact OOle.eq (congrArg (fun z => some (Obj.mk true true (.slS z) 9)) (hcat _ (hza ‹_›))) | exact OOle.eq (congrArg (fun z => some (Obj.mk true true (.slS z) 9)) (hcat _ (hzb ‹_›))) | exact OOle.eq (congrArg (fun z => some (Obj.mk true true (.slS z) 9)) (hcat _ (hzc ‹_›))) | exact OOle.eq (congrArg (fun z => some (Obj.mk true false (.agg [.int .i64 f, .slS old, .own 89 z]) 47)) hlen) | exact OOle.gone _)

  · have e : besR ls f t c tx false = chNo := if_neg hok
    rw [e]
    have hok' : 0 ≤ f → f ≤ t → t < ls.length → 0 ≤ c → c ≤ 4096 → noLF tx = true → False := fun a b c d e g => hok ⟨⟨a, b, c, d, e⟩, g⟩
    generalize noLF tx = g1 at *
    refine Pure.ofT tab2_ok Try.func43 rfl rfl [.cell 12 47, .tmp 13] rfl (by decide) rfl ⟨93, 7, (.node (.node (.node (.node (.node (.node (.node (.leaf (.slS ls)) (J 0)) (J 1)) (J 2)) (J 3)) (.node (.node (.node (.node (.leaf (.str tx)) (J 0)) (J 1)) (J 2)) (J 3))) (.node (.node (.node (.node (.node (.leaf (.int .i64 t)) (J 0)) (J 1)) (J 2)) (J 3)) (J 4))) (.node (.node (.node (.node (.node (.node (.leaf (.int .i64 f)) (J 0)) (J 1)) (J 2)) (J 3)) (.node (.node (.node (.node (.leaf (.bool false)) (J 0)) (J 1)) (J 2)) (J 3))) (.node (.node (.node (.node (.node (.leaf (.int .i64 c)) (J 0)) (J 1)) (J 2)) (J 3)) (J 4)))), (OO 7)⟩ (by kernel_rfl) (by kernel_rfl) ?_
    repeat' (first
      | refine allProp_T ?_
      | exact trivial
      | (refine URun.id ?_; first
          | refine URun.nil ?_
          | refine URun.many tabs2 rfl rfl (by kernel_rfl) ?_ ?_
          | (refine URun.toCall 65 rfl ?_; first
            | refine URun.callB tabs2 rfl rfl rfl rfl k65 rfl rfl ?_ rfl rfl (fun h => ?_) (fun h => ?_))
          | refine URun.same tabs2 rfl rfl rfl ?_
          | refine URun.same2 tabs2 rfl rfl rfl ?_
          | refine URun.split tabs2 rfl rfl rfl rfl (fun h => ?_) (fun h => ?_))
      | (refine TRun.id ?_; first
          | refine TRun.nil ?_
          | refine TRun.many rfl rfl (by kernel_rfl) ?_ ?_
          | (refine TRun.toCall 65 rfl ?_; first
            | refine TRun.callB rfl rfl rfl rfl k65 rfl rfl ?_ rfl rfl (fun h => ?_) (fun h => ?_))
          | refine TRun.same rfl rfl rfl ?_
          | refine TRun.same2 rfl rfl rfl ?_
          | refine TRun.split rfl rfl rfl rfl (fun h => ?_) (fun h => ?_))
      | (refine HoldsT.id ?_; first
          | refine HoldsT.seq ?_
          | refine HoldsT.regionU ?_
          | refine HoldsT.drawn tabs2 ?_
          | refine HoldsT.yes rfl ?_
          | refine HoldsT.no rfl ?_
          | refine HoldsT.cond rfl (fun h => ?_) (fun h => ?_)
          | refine HoldsT.block ?_
          | refine HoldsT.ret ?_
          | refine HoldsT.skip ?_
          | refine HoldsT.exit ?_)
      | (refine okTr_intro ?_; kernel_rfl)
      | exact absurd rfl h
      | refine allProp_C ?_ ?_
      | refine And.intro ?_ ?_
      | omega
      | (show _ < List.length _; omega)
      | exact rowlen_intro rfl
      | exact lenEq_intro rfl
      | exact Nat.le_of_ble_eq_true rfl
      | (simp only [AV.rowlenD, AV.rowlen, AV.ncells, mulSz, toN, Option.map_some, Option.map_none, cutL, List.length_take, List.length_drop, List.length_append, List.length_cons, List.length_nil, List.length_set, Option.some.injEq, Int.reduceToNat] <;> omega))
    all_goals first
      | exact FinC.t (y := .tup [.agg [.int .i64 _, .nilsl, .nilsl], .bool _]) rfl rfl ⟨⟨trivial, trivial, trivial, trivial⟩, trivial, trivial⟩ noLeC
      | (exfalso; refine hok' (by omega) (by omega) (by omega) (by omega) (by omega) ?_; simp_all)

end Go.Proofs.Ytefbgdnobnemkaa.AM
