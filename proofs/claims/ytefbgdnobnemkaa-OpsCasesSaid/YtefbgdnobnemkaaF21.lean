/-
  Which keys type something.
-/
import Derived.Test.YtefbgdnobnemkaaF20
set_option linter.unusedSimpArgs false
set_option linter.unusedVariables false
set_option linter.unusedSectionVars false
namespace Go.Proofs.Ytefbgdnobnemkaa.AM
open Go Go.RowKit

theorem len1 (x : UInt8) : (([x] : List UInt8).length : Int) ≠ 0 := by simp
theorem k37z : Pure Try.prog 37 [.agg [.int .i64 0, .slS [], .slS []], .agg [.int .i64 0, .nilsl, .nilsl]] (.bool true) := by
  have h := p37 0 0 [] [] [] [] (by simp) (by simp)
  exact (show Pure Try.prog 37 [.agg [.int .i64 0, .slS [], .slS []], .agg [.int .i64 0, .slS [], .slS []]] (.bool true) by simpa using h).le (.cons (.refl _) (.cons (.agg (.cons (.refl _) (.cons .nilS (.cons .nilS .nil)))) .nil))
theorem rowG1 {sz n : Nat} {cs : List AV} (hs : sz = 1) (hn : cs.length = n) : (AV.slG sz cs).rowlen = some n := by subst hs hn; simp [AV.rowlen]

theorem net_one {k : Int} (hk : inK .u8 k) : Pure Try.prog 38 [.slG 1 [.int .u8 k]] (.slB (netL [UInt8.ofNat k.toNat])) := by
  have h := p38 [UInt8.ofNat k.toNat] (by simp)
  refine h.le (.cons ?_ .nil)
  have e := byteCells_append [] hk
  simp only [byteCells, List.map_nil, List.nil_append] at e
  have := AVle.bytes [UInt8.ofNat k.toNat]
  unfold byteCells at this
  rwa [← e] at this
theorem u8_back {k : Int} (hk : inK .u8 k) : ((UInt8.ofNat k.toNat).toNat : Int) = k := by
  have h1 := hk.1
  have h2 := hk.2
  rw [UInt8.toNat_ofNat']
  omega
theorem net_yes {k : Int} (hk : inK .u8 k) (h : letterK k = true ∨ k = 13 ∨ k = 10) : netL [UInt8.ofNat k.toNat] = [UInt8.ofNat k.toNat] := by
  show netStep [] _ = _
  unfold netStep
  rw [u8_back hk, if_pos h]
  rfl
theorem net_no {k : Int} (hk : inK .u8 k) (h : ¬ (letterK k = true ∨ k = 13 ∨ k = 10)) : netL [UInt8.ofNat k.toNat] = [] := by
  show netStep [] _ = _
  unfold netStep
  rw [u8_back hk, if_neg h, if_neg (fun hh => by simp at hh)]

section
variable (ls : List (List UInt8)) (a b k : Int) (o : Bool) (hL : ls.length ≤ 140737488355328) (hB : ∀ n : Nat, (ls.getD n []).length ≤ 140737488355328)
include hL hB
set_option maxRecDepth 10000 in
set_option maxHeartbeats 8000000 in
theorem p12_no (hok : (decide (0 < (ls.length : Int)) && lightL ls) = false) : Pure Try.prog 12 [.slS ls, .int .u16 a, .int .u16 b, .int .u8 k, .bool o] (.bool true) := by
  have k27 := p27 ls hL hB
  rw [hok] at k27
  refine Pure.ofT tab_ok Try.func12 rfl rfl [.tmp 10] rfl (by decide) rfl ⟨126, 7, (.node (.node (.node (.node (.node (.node (.node (.leaf (.slS ls)) (J 0)) (J 1)) (J 2)) (J 3)) (.node (.node (.node (.node (.leaf (.bool o)) (J 0)) (J 1)) (J 2)) (J 3))) (.node (.node (.node (.node (.node (.leaf (.int .u16 b)) (J 0)) (J 1)) (J 2)) (J 3)) (J 4))) (.node (.node (.node (.node (.node (.node (.leaf (.int .u16 a)) (J 0)) (J 1)) (J 2)) (J 3)) (J 4)) (.node (.node (.node (.node (.node (.leaf (.int .u8 k)) (J 0)) (J 1)) (J 2)) (J 3)) (J 4)))), (OO 7)⟩ (by kernel_rfl) (by kernel_rfl) ?_
  repeat' (first
    | refine allProp_T ?_
    | exact trivial
    | (refine URun.id ?_; first
        | refine URun.nil ?_
        | refine URun.many tabs rfl rfl (by kernel_rfl) ?_ ?_
        | (refine URun.toCall 34 rfl ?_; first
          | refine URun.call tabs rfl rfl rfl rfl p34 rfl rfl ?_ rfl ?_)
        | (refine URun.toCall 27 rfl ?_; first
          | refine URun.call tabs rfl rfl rfl rfl k27 rfl rfl ?_ rfl ?_)
        | refine URun.same tabs rfl rfl rfl ?_
        | refine URun.same2 tabs rfl rfl rfl ?_
        | refine URun.split tabs rfl rfl rfl rfl (fun h => ?_) (fun h => ?_))
    | (refine TRun.id ?_; first
        | refine TRun.nil ?_
        | refine TRun.many rfl rfl (by kernel_rfl) ?_ ?_
        | (refine TRun.toCall 34 rfl ?_; first
          | refine TRun.call rfl rfl rfl rfl p34 rfl rfl ?_ rfl ?_)
        | (refine TRun.toCall 27 rfl ?_; first
          | refine TRun.call rfl rfl rfl rfl k27 rfl rfl ?_ rfl ?_)
        | refine TRun.same rfl rfl rfl ?_
        | refine TRun.same2 rfl rfl rfl ?_
        | refine TRun.split rfl rfl rfl rfl (fun h => ?_) (fun h => ?_))
    | (refine HoldsT.id ?_; first
        | refine HoldsT.seq ?_
        | refine HoldsT.regionU ?_
        | refine HoldsT.drawn tabs ?_
        | refine HoldsT.yes rfl ?_
        | refine HoldsT.no rfl ?_
        | refine HoldsT.cond rfl (fun h => ?_) (fun h => ?_)
        | refine HoldsT.block ?_
        | refine HoldsT.ret ?_
        | refine HoldsT.skip ?_
        | refine HoldsT.exit ?_)
    | (refine okTr_intro ?_; kernel_rfl)
    | exact absurd rfl h
    | refine allProp_C ?_ ?_
    | refine And.intro ?_ ?_
    | omega
    | (show _ < List.length _; omega)
    | exact rowlen_intro rfl
    | exact lenEq_intro rfl
    | exact Nat.le_of_ble_eq_true rfl
    | (simp only [AV.rowlenD, AV.rowlen, AV.ncells, mulSz, toN, Option.map_some, Option.map_none, cutL, List.length_take, List.length_drop, List.length_append, List.length_cons, List.length_nil, List.length_set, Option.some.injEq, Int.reduceToNat] <;> omega))
  all_goals exact FinC.te (y := .bool true) rfl rfl trivial rfl

section
variable (hok : (decide (0 < (ls.length : Int)) && lightL ls) = true) (l c : Int) (hp : placeL ls l c = true) (k28 : Pure Try.prog 28 [.slS ls, .int .u16 a, .int .u16 b] (.agg [.int .i64 l, .int .i64 c])) (hk : inK .u8 k)
include hok hp k28 hk
set_option maxRecDepth 10000 in
set_option maxHeartbeats 8000000 in
theorem p12_falseL (hc : letterK k = true) : Pure Try.prog 12 [.slS ls, .int .u16 a, .int .u16 b, .int .u8 k, .bool false] (.bool true) := by
      have k27 := p27 ls hL hB
      rw [hok] at k27
      obtain ⟨h0, hl, hr⟩ := light_len hok
      obtain ⟨hp1, hp2, hp3, hp4⟩ := place_of hp
      have hr1 := hr l.toNat
      have k35 := p35 ls l c l c 1 k (by omega) hB hk
      have k38 := net_one hk
      have e : typeL ls l c l c 1 k = ⟨true, l, [ls.getD l.toNat []], [(ls.getD l.toNat []).take c.toNat ++ UInt8.ofNat k.toNat :: (ls.getD l.toNat []).drop c.toNat], l, c + 1⟩ := by
        unfold typeL
        rw [if_pos ⟨hp, .inl rfl⟩, if_pos hc, if_pos rfl]
      rw [e] at k35
      rw [net_yes hk (.inl hc)] at k38
      have k30 := p30 [ls.getD l.toNat []] (cutL ls (some l.toNat) (some (l + 1).toNat)) (by simp)
      rw [show cutL ls (some l.toNat) (some (l + 1).toNat) = [ls.getD l.toNat []] from mid_one hp1 hp2, decide_eq_true rfl] at k30
      have k30 : Pure Try.prog 30 [.slS [ls.getD l.toNat []], .slS (cutL ls (some l.toNat) (some (l + 1).toNat))] (.bool true) := by
        rw [show cutL ls (some l.toNat) (some (l + 1).toNat) = [ls.getD l.toNat []] from mid_one hp1 hp2]; exact k30
      have k33a := p33 [(ls.getD l.toNat []).take c.toNat ++ UInt8.ofNat k.toNat :: (ls.getD l.toNat []).drop c.toNat] (by simp) (by simp only [sumL, List.map_cons, List.map_nil, List.sum_cons, List.sum_nil, List.length_append, List.length_cons, List.length_take, List.length_drop]; omega)
      have k33b := p33 [ls.getD l.toNat []] (by simp) (by simp only [sumL, List.map_cons, List.map_nil, List.sum_cons, List.sum_nil]; omega)
      have hsz : (sizeL [ls.getD l.toNat []] : Int) ≤ (sizeL [(ls.getD l.toNat []).take c.toNat ++ UInt8.ofNat k.toNat :: (ls.getD l.toNat []).drop c.toNat] : Int) := by
        simp only [sizeL, sumL, List.map_cons, List.map_nil, List.sum_cons, List.sum_nil, List.length_append, List.length_cons, List.length_nil, List.length_take, List.length_drop]; omega
      have hs2 : sizeL [(ls.getD l.toNat []).take c.toNat ++ UInt8.ofNat k.toNat :: (ls.getD l.toNat []).drop c.toNat] ≤ 3000 := by
        simp only [sizeL, sumL, List.map_cons, List.map_nil, List.sum_cons, List.sum_nil, List.length_append, List.length_cons, List.length_nil, List.length_take, List.length_drop]; omega
      have hc2 := of_decide_eq_true hc
      refine Pure.ofT tab_ok Try.func12 rfl rfl [.tmp 10] rfl (by decide) rfl ⟨126, 7, (.node (.node (.node (.node (.node (.node (.node (.leaf (.slS ls)) (J 0)) (J 1)) (J 2)) (J 3)) (.node (.node (.node (.node (.leaf (.bool false)) (J 0)) (J 1)) (J 2)) (J 3))) (.node (.node (.node (.node (.node (.leaf (.int .u16 b)) (J 0)) (J 1)) (J 2)) (J 3)) (J 4))) (.node (.node (.node (.node (.node (.node (.leaf (.int .u16 a)) (J 0)) (J 1)) (J 2)) (J 3)) (J 4)) (.node (.node (.node (.node (.node (.leaf (.int .u8 k)) (J 0)) (J 1)) (J 2)) (J 3)) (J 4)))), (OO 7)⟩ (by kernel_rfl) (by kernel_rfl) ?_
      repeat' (first
        | refine allProp_T ?_
        | exact trivial
        | (refine URun.id ?_; first
            | refine URun.nil ?_
            | refine URun.many tabs rfl rfl (by kernel_rfl) ?_ ?_
            | (refine URun.toCall 34 rfl ?_; first
              | refine URun.call tabs rfl rfl rfl rfl p34 rfl rfl ?_ rfl ?_)
            | (refine URun.toCall 27 rfl ?_; first
              | refine URun.call tabs rfl rfl rfl rfl k27 rfl rfl ?_ rfl ?_)
            | (refine URun.toCall 28 rfl ?_; first
              | refine URun.call tabs rfl rfl rfl rfl k28 rfl rfl ?_ rfl ?_)
            | (refine URun.toCall 35 rfl ?_; first
              | refine URun.call tabs rfl rfl rfl rfl k35 rfl rfl ?_ rfl ?_)
            | (refine URun.toCall 38 rfl ?_; first
              | refine URun.call tabs rfl rfl rfl rfl k38 rfl rfl ?_ rfl ?_)
            | (refine URun.toCall 37 rfl ?_; first
              | refine URun.call tabs rfl rfl rfl rfl k37z rfl rfl ?_ rfl ?_)
            | (refine URun.toCall 30 rfl ?_; first
              | refine URun.call tabs rfl rfl rfl rfl k30 rfl rfl ?_ rfl ?_)
            | (refine URun.toCall 33 rfl ?_; first
              | refine URun.call tabs rfl rfl rfl rfl k33a rfl rfl ?_ rfl ?_
              | refine URun.call tabs rfl rfl rfl rfl k33b rfl rfl ?_ rfl ?_)
            | refine URun.same tabs rfl rfl rfl ?_
            | refine URun.same2 tabs rfl rfl rfl ?_
            | refine URun.yes tabs rfl rfl (fun h => h rfl) rfl ?_
            | refine URun.no tabs rfl rfl (fun h => h rfl) rfl ?_
            | refine URun.yes tabs rfl rfl (fun h => h ⟨rfl, rfl⟩) rfl ?_
            | refine URun.no tabs rfl rfl (fun h => h ⟨rfl, rfl⟩) rfl ?_
            | refine URun.yes tabs rfl rfl hsz rfl ?_
            | refine URun.no tabs rfl rfl hsz rfl ?_
            | refine URun.yes tabs rfl rfl (len1 _) rfl ?_
            | refine URun.no tabs rfl rfl (len1 _) rfl ?_
            | refine URun.yes tabs rfl rfl (by decide) rfl ?_
            | refine URun.no tabs rfl rfl (by decide) rfl ?_
            | refine URun.yes tabs rfl rfl (by omega) rfl ?_
            | refine URun.no tabs rfl rfl (by omega) rfl ?_
            | refine URun.split tabs rfl rfl rfl rfl (fun h => ?_) (fun h => ?_))
        | (refine TRun.id ?_; first
            | refine TRun.nil ?_
            | refine TRun.many rfl rfl (by kernel_rfl) ?_ ?_
            | (refine TRun.toCall 34 rfl ?_; first
              | refine TRun.call rfl rfl rfl rfl p34 rfl rfl ?_ rfl ?_)
            | (refine TRun.toCall 27 rfl ?_; first
              | refine TRun.call rfl rfl rfl rfl k27 rfl rfl ?_ rfl ?_)
            | (refine TRun.toCall 28 rfl ?_; first
              | refine TRun.call rfl rfl rfl rfl k28 rfl rfl ?_ rfl ?_)
            | (refine TRun.toCall 35 rfl ?_; first
              | refine TRun.call rfl rfl rfl rfl k35 rfl rfl ?_ rfl ?_)
            | (refine TRun.toCall 38 rfl ?_; first
              | refine TRun.call rfl rfl rfl rfl k38 rfl rfl ?_ rfl ?_)
            | (refine TRun.toCall 37 rfl ?_; first
              | refine TRun.call rfl rfl rfl rfl k37z rfl rfl ?_ rfl ?_)
            | (refine TRun.toCall 30 rfl ?_; first
              | refine TRun.call rfl rfl rfl rfl k30 rfl rfl ?_ rfl ?_)
            | (refine TRun.toCall 33 rfl ?_; first
              | refine TRun.call rfl rfl rfl rfl k33a rfl rfl ?_ rfl ?_
              | refine TRun.call rfl rfl rfl rfl k33b rfl rfl ?_ rfl ?_)
            | refine TRun.same rfl rfl rfl ?_
            | refine TRun.same2 rfl rfl rfl ?_
            | refine TRun.yes rfl rfl (fun h => h rfl) rfl ?_
            | refine TRun.no rfl rfl (fun h => h rfl) rfl ?_
            | refine TRun.yes rfl rfl (fun h => h ⟨rfl, rfl⟩) rfl ?_
            | refine TRun.no rfl rfl (fun h => h ⟨rfl, rfl⟩) rfl ?_
            | refine TRun.yes rfl rfl hsz rfl ?_
            | refine TRun.no rfl rfl hsz rfl ?_
            | refine TRun.yes rfl rfl (len1 _) rfl ?_
            | refine TRun.no rfl rfl (len1 _) rfl ?_
            | refine TRun.yes rfl rfl (by decide) rfl ?_
            | refine TRun.no rfl rfl (by decide) rfl ?_
            | refine TRun.yes rfl rfl (by omega) rfl ?_
            | refine TRun.no rfl rfl (by omega) rfl ?_
            | refine TRun.split rfl rfl rfl rfl (fun h => ?_) (fun h => ?_))
        | (refine HoldsT.id ?_; first
            | refine HoldsT.seq ?_
            | refine HoldsT.regionU ?_
            | refine HoldsT.drawn tabs ?_
            | refine HoldsT.yes rfl ?_
            | refine HoldsT.no rfl ?_
            | refine HoldsT.cond rfl (fun h => ?_) (fun h => ?_)
            | refine HoldsT.block ?_
            | refine HoldsT.ret ?_
            | refine HoldsT.skip ?_
            | refine HoldsT.exit ?_)
        | (refine okTr_intro ?_; kernel_rfl)
        | exact absurd rfl h
        | exact rowG1 rfl rfl
        | refine allProp_C ?_ ?_
        | refine And.intro ?_ ?_
        | omega
        | (show _ < List.length _; omega)
        | exact rowlen_intro rfl
        | exact lenEq_intro rfl
        | exact Nat.le_of_ble_eq_true rfl
        | (simp only [AV.rowlenD, AV.rowlen, AV.ncells, mulSz, toN, Option.map_some, Option.map_none, cutL, List.length_take, List.length_drop, List.length_append, List.length_cons, List.length_nil, List.length_set, Option.some.injEq, Int.reduceToNat] <;> omega))
      all_goals first | exact FinC.te (y := .bool true) rfl rfl trivial rfl | (exfalso; omega)

set_option maxRecDepth 10000 in
set_option maxHeartbeats 8000000 in
theorem p12_falseB (hc : k = 13 ∨ k = 10) : Pure Try.prog 12 [.slS ls, .int .u16 a, .int .u16 b, .int .u8 k, .bool false] (.bool true) := by
      have k27 := p27 ls hL hB
      rw [hok] at k27
      obtain ⟨h0, hl, hr⟩ := light_len hok
      obtain ⟨hp1, hp2, hp3, hp4⟩ := place_of hp
      have hr1 := hr l.toNat
      have k35 := p35 ls l c l c 1 k (by omega) hB hk
      have k38 := net_one hk
      have e : typeL ls l c l c 1 k = ⟨true, l, [ls.getD l.toNat []], [(ls.getD l.toNat []).take c.toNat, (ls.getD l.toNat []).drop c.toNat], l + 1, 0⟩ := by
        unfold typeL
        rw [if_pos ⟨hp, .inl rfl⟩, if_neg (by rw [letter_not hc]; decide), if_pos hc]
      rw [e] at k35
      rw [net_yes hk (.inr hc)] at k38
      have k30 := p30 [ls.getD l.toNat []] (cutL ls (some l.toNat) (some (l + 1).toNat)) (by simp)
      rw [show cutL ls (some l.toNat) (some (l + 1).toNat) = [ls.getD l.toNat []] from mid_one hp1 hp2, decide_eq_true rfl] at k30
      have k30 : Pure Try.prog 30 [.slS [ls.getD l.toNat []], .slS (cutL ls (some l.toNat) (some (l + 1).toNat))] (.bool true) := by
        rw [show cutL ls (some l.toNat) (some (l + 1).toNat) = [ls.getD l.toNat []] from mid_one hp1 hp2]; exact k30
      have k33a := p33 [(ls.getD l.toNat []).take c.toNat, (ls.getD l.toNat []).drop c.toNat] (by simp) (by simp only [sumL, List.map_cons, List.map_nil, List.sum_cons, List.sum_nil, List.length_append, List.length_cons, List.length_take, List.length_drop]; omega)
      have k33b := p33 [ls.getD l.toNat []] (by simp) (by simp only [sumL, List.map_cons, List.map_nil, List.sum_cons, List.sum_nil]; omega)
      have hsz : (sizeL [ls.getD l.toNat []] : Int) ≤ (sizeL [(ls.getD l.toNat []).take c.toNat, (ls.getD l.toNat []).drop c.toNat] : Int) := by
        simp only [sizeL, sumL, List.map_cons, List.map_nil, List.sum_cons, List.sum_nil, List.length_append, List.length_cons, List.length_nil, List.length_take, List.length_drop]; omega
      have hs2 : sizeL [(ls.getD l.toNat []).take c.toNat, (ls.getD l.toNat []).drop c.toNat] ≤ 3000 := by
        simp only [sizeL, sumL, List.map_cons, List.map_nil, List.sum_cons, List.sum_nil, List.length_append, List.length_cons, List.length_nil, List.length_take, List.length_drop]; omega
      have hc2 := hc
      refine Pure.ofT tab_ok Try.func12 rfl rfl [.tmp 10] rfl (by decide) rfl ⟨126, 7, (.node (.node (.node (.node (.node (.node (.node (.leaf (.slS ls)) (J 0)) (J 1)) (J 2)) (J 3)) (.node (.node (.node (.node (.leaf (.bool false)) (J 0)) (J 1)) (J 2)) (J 3))) (.node (.node (.node (.node (.node (.leaf (.int .u16 b)) (J 0)) (J 1)) (J 2)) (J 3)) (J 4))) (.node (.node (.node (.node (.node (.node (.leaf (.int .u16 a)) (J 0)) (J 1)) (J 2)) (J 3)) (J 4)) (.node (.node (.node (.node (.node (.leaf (.int .u8 k)) (J 0)) (J 1)) (J 2)) (J 3)) (J 4)))), (OO 7)⟩ (by kernel_rfl) (by kernel_rfl) ?_
      repeat' (first
        | refine allProp_T ?_
        | exact trivial
        | (refine URun.id ?_; first
            | refine URun.nil ?_
            | refine URun.many tabs rfl rfl (by kernel_rfl) ?_ ?_
            | (refine URun.toCall 34 rfl ?_; first
              | refine URun.call tabs rfl rfl rfl rfl p34 rfl rfl ?_ rfl ?_)
            | (refine URun.toCall 27 rfl ?_; first
              | refine URun.call tabs rfl rfl rfl rfl k27 rfl rfl ?_ rfl ?_)
            | (refine URun.toCall 28 rfl ?_; first
              | refine URun.call tabs rfl rfl rfl rfl k28 rfl rfl ?_ rfl ?_)
            | (refine URun.toCall 35 rfl ?_; first
              | refine URun.call tabs rfl rfl rfl rfl k35 rfl rfl ?_ rfl ?_)
            | (refine URun.toCall 38 rfl ?_; first
              | refine URun.call tabs rfl rfl rfl rfl k38 rfl rfl ?_ rfl ?_)
            | (refine URun.toCall 37 rfl ?_; first
              | refine URun.call tabs rfl rfl rfl rfl k37z rfl rfl ?_ rfl ?_)
            | (refine URun.toCall 30 rfl ?_; first
              | refine URun.call tabs rfl rfl rfl rfl k30 rfl rfl ?_ rfl ?_)
            | (refine URun.toCall 33 rfl ?_; first
              | refine URun.call tabs rfl rfl rfl rfl k33a rfl rfl ?_ rfl ?_
              | refine URun.call tabs rfl rfl rfl rfl k33b rfl rfl ?_ rfl ?_)
            | refine URun.same tabs rfl rfl rfl ?_
            | refine URun.same2 tabs rfl rfl rfl ?_
            | refine URun.yes tabs rfl rfl (fun h => h rfl) rfl ?_
            | refine URun.no tabs rfl rfl (fun h => h rfl) rfl ?_
            | refine URun.yes tabs rfl rfl (fun h => h ⟨rfl, rfl⟩) rfl ?_
            | refine URun.no tabs rfl rfl (fun h => h ⟨rfl, rfl⟩) rfl ?_
            | refine URun.yes tabs rfl rfl hsz rfl ?_
            | refine URun.no tabs rfl rfl hsz rfl ?_
            | refine URun.yes tabs rfl rfl (len1 _) rfl ?_
            | refine URun.no tabs rfl rfl (len1 _) rfl ?_
            | refine URun.yes tabs rfl rfl (by decide) rfl ?_
            | refine URun.no tabs rfl rfl (by decide) rfl ?_
            | refine URun.yes tabs rfl rfl (by omega) rfl ?_
            | refine URun.no tabs rfl rfl (by omega) rfl ?_
            | refine URun.split tabs rfl rfl rfl rfl (fun h => ?_) (fun h => ?_))
        | (refine TRun.id ?_; first
            | refine TRun.nil ?_
            | refine TRun.many rfl rfl (by kernel_rfl) ?_ ?_
            | (refine TRun.toCall 34 rfl ?_; first
              | refine TRun.call rfl rfl rfl rfl p34 rfl rfl ?_ rfl ?_)
            | (refine TRun.toCall 27 rfl ?_; first
              | refine TRun.call rfl rfl rfl rfl k27 rfl rfl ?_ rfl ?_)
            | (refine TRun.toCall 28 rfl ?_; first
              | refine TRun.call rfl rfl rfl rfl k28 rfl rfl ?_ rfl ?_)
            | (refine TRun.toCall 35 rfl ?_; first
              | refine TRun.call rfl rfl rfl rfl k35 rfl rfl ?_ rfl ?_)
            | (refine TRun.toCall 38 rfl ?_; first
              | refine TRun.call rfl rfl rfl rfl k38 rfl rfl ?_ rfl ?_)
            | (refine TRun.toCall 37 rfl ?_; first
              | refine TRun.call rfl rfl rfl rfl k37z rfl rfl ?_ rfl ?_)
            | (refine TRun.toCall 30 rfl ?_; first
              | refine TRun.call rfl rfl rfl rfl k30 rfl rfl ?_ rfl ?_)
            | (refine TRun.toCall 33 rfl ?_; first
              | refine TRun.call rfl rfl rfl rfl k33a rfl rfl ?_ rfl ?_
              | refine TRun.call rfl rfl rfl rfl k33b rfl rfl ?_ rfl ?_)
            | refine TRun.same rfl rfl rfl ?_
            | refine TRun.same2 rfl rfl rfl ?_
            | refine TRun.yes rfl rfl (fun h => h rfl) rfl ?_
            | refine TRun.no rfl rfl (fun h => h rfl) rfl ?_
            | refine TRun.yes rfl rfl (fun h => h ⟨rfl, rfl⟩) rfl ?_
            | refine TRun.no rfl rfl (fun h => h ⟨rfl, rfl⟩) rfl ?_
            | refine TRun.yes rfl rfl hsz rfl ?_
            | refine TRun.no rfl rfl hsz rfl ?_
            | refine TRun.yes rfl rfl (len1 _) rfl ?_
            | refine TRun.no rfl rfl (len1 _) rfl ?_
            | refine TRun.yes rfl rfl (by decide) rfl ?_
            | refine TRun.no rfl rfl (by decide) rfl ?_
            | refine TRun.yes rfl rfl (by omega) rfl ?_
            | refine TRun.no rfl rfl (by omega) rfl ?_
            | refine TRun.split rfl rfl rfl rfl (fun h => ?_) (fun h => ?_))
        | (refine HoldsT.id ?_; first
            | refine HoldsT.seq ?_
            | refine HoldsT.regionU ?_
            | refine HoldsT.drawn tabs ?_
            | refine HoldsT.yes rfl ?_
            | refine HoldsT.no rfl ?_
            | refine HoldsT.cond rfl (fun h => ?_) (fun h => ?_)
            | refine HoldsT.block ?_
            | refine HoldsT.ret ?_
            | refine HoldsT.skip ?_
            | refine HoldsT.exit ?_)
        | (refine okTr_intro ?_; kernel_rfl)
        | exact absurd rfl h
        | exact rowG1 rfl rfl
        | refine allProp_C ?_ ?_
        | refine And.intro ?_ ?_
        | omega
        | (show _ < List.length _; omega)
        | exact rowlen_intro rfl
        | exact lenEq_intro rfl
        | exact Nat.le_of_ble_eq_true rfl
        | (simp only [AV.rowlenD, AV.rowlen, AV.ncells, mulSz, toN, Option.map_some, Option.map_none, cutL, List.length_take, List.length_drop, List.length_append, List.length_cons, List.length_nil, List.length_set, Option.some.injEq, Int.reduceToNat] <;> omega))
      all_goals first | exact FinC.te (y := .bool true) rfl rfl trivial rfl | (exfalso; omega)

set_option maxRecDepth 10000 in
set_option maxHeartbeats 8000000 in
theorem p12_falseN (hc : ¬ (letterK k = true ∨ k = 13 ∨ k = 10)) : Pure Try.prog 12 [.slS ls, .int .u16 a, .int .u16 b, .int .u8 k, .bool false] (.bool true) := by
      have k27 := p27 ls hL hB
      rw [hok] at k27
      obtain ⟨h0, hl, hr⟩ := light_len hok
      obtain ⟨hp1, hp2, hp3, hp4⟩ := place_of hp
      have hr1 := hr l.toNat
      have k35 := p35 ls l c l c 1 k (by omega) hB hk
      have k38 := net_one hk
      have e : typeL ls l c l c 1 k = tyNo := by
        unfold typeL
        rw [if_pos ⟨hp, .inl rfl⟩, if_neg (fun h => hc (.inl h)), if_neg (fun h => hc (.inr h)), if_neg (fun h => by omega)]
      rw [e] at k35
      rw [net_no hk hc] at k38
      have hc2 : ¬ ((32 ≤ k ∧ k ≠ 127) ∨ k = 9) ∧ ¬ (k = 13 ∨ k = 10) := ⟨fun h => hc (.inl (decide_eq_true h)), fun h => hc (.inr h)⟩
      refine Pure.ofT tab_ok Try.func12 rfl rfl [.tmp 10] rfl (by decide) rfl ⟨126, 7, (.node (.node (.node (.node (.node (.node (.node (.leaf (.slS ls)) (J 0)) (J 1)) (J 2)) (J 3)) (.node (.node (.node (.node (.leaf (.bool false)) (J 0)) (J 1)) (J 2)) (J 3))) (.node (.node (.node (.node (.node (.leaf (.int .u16 b)) (J 0)) (J 1)) (J 2)) (J 3)) (J 4))) (.node (.node (.node (.node (.node (.node (.leaf (.int .u16 a)) (J 0)) (J 1)) (J 2)) (J 3)) (J 4)) (.node (.node (.node (.node (.node (.leaf (.int .u8 k)) (J 0)) (J 1)) (J 2)) (J 3)) (J 4)))), (OO 7)⟩ (by kernel_rfl) (by kernel_rfl) ?_
      repeat' (first
        | refine allProp_T ?_
        | exact trivial
        | (refine URun.id ?_; first
            | refine URun.nil ?_
            | refine URun.many tabs rfl rfl (by kernel_rfl) ?_ ?_
            | (refine URun.toCall 34 rfl ?_; first
              | refine URun.call tabs rfl rfl rfl rfl p34 rfl rfl ?_ rfl ?_)
            | (refine URun.toCall 27 rfl ?_; first
              | refine URun.call tabs rfl rfl rfl rfl k27 rfl rfl ?_ rfl ?_)
            | (refine URun.toCall 28 rfl ?_; first
              | refine URun.call tabs rfl rfl rfl rfl k28 rfl rfl ?_ rfl ?_)
            | (refine URun.toCall 35 rfl ?_; first
              | refine URun.call tabs rfl rfl rfl rfl k35 rfl rfl ?_ rfl ?_)
            | (refine URun.toCall 38 rfl ?_; first
              | refine URun.call tabs rfl rfl rfl rfl k38 rfl rfl ?_ rfl ?_)
            | (refine URun.toCall 37 rfl ?_; first
              | refine URun.call tabs rfl rfl rfl rfl k37z rfl rfl ?_ rfl ?_)
            | refine URun.same tabs rfl rfl rfl ?_
            | refine URun.same2 tabs rfl rfl rfl ?_
            | refine URun.yes tabs rfl rfl (fun h => h rfl) rfl ?_
            | refine URun.no tabs rfl rfl (fun h => h rfl) rfl ?_
            | refine URun.yes tabs rfl rfl (fun h => h ⟨rfl, rfl⟩) rfl ?_
            | refine URun.no tabs rfl rfl (fun h => h ⟨rfl, rfl⟩) rfl ?_
            | refine URun.yes tabs rfl rfl (len1 _) rfl ?_
            | refine URun.no tabs rfl rfl (len1 _) rfl ?_
            | refine URun.yes tabs rfl rfl (by decide) rfl ?_
            | refine URun.no tabs rfl rfl (by decide) rfl ?_
            | refine URun.yes tabs rfl rfl (by omega) rfl ?_
            | refine URun.no tabs rfl rfl (by omega) rfl ?_
            | refine URun.split tabs rfl rfl rfl rfl (fun h => ?_) (fun h => ?_))
        | (refine TRun.id ?_; first
            | refine TRun.nil ?_
            | refine TRun.many rfl rfl (by kernel_rfl) ?_ ?_
            | (refine TRun.toCall 34 rfl ?_; first
              | refine TRun.call rfl rfl rfl rfl p34 rfl rfl ?_ rfl ?_)
            | (refine TRun.toCall 27 rfl ?_; first
              | refine TRun.call rfl rfl rfl rfl k27 rfl rfl ?_ rfl ?_)
            | (refine TRun.toCall 28 rfl ?_; first
              | refine TRun.call rfl rfl rfl rfl k28 rfl rfl ?_ rfl ?_)
            | (refine TRun.toCall 35 rfl ?_; first
              | refine TRun.call rfl rfl rfl rfl k35 rfl rfl ?_ rfl ?_)
            | (refine TRun.toCall 38 rfl ?_; first
              | refine TRun.call rfl rfl rfl rfl k38 rfl rfl ?_ rfl ?_)
            | (refine TRun.toCall 37 rfl ?_; first
              | refine TRun.call rfl rfl rfl rfl k37z rfl rfl ?_ rfl ?_)
            | refine TRun.same rfl rfl rfl ?_
            | refine TRun.same2 rfl rfl rfl ?_
            | refine TRun.yes rfl rfl (fun h => h rfl) rfl ?_
            | refine TRun.no rfl rfl (fun h => h rfl) rfl ?_
            | refine TRun.yes rfl rfl (fun h => h ⟨rfl, rfl⟩) rfl ?_
            | refine TRun.no rfl rfl (fun h => h ⟨rfl, rfl⟩) rfl ?_
            | refine TRun.yes rfl rfl (len1 _) rfl ?_
            | refine TRun.no rfl rfl (len1 _) rfl ?_
            | refine TRun.yes rfl rfl (by decide) rfl ?_
            | refine TRun.no rfl rfl (by decide) rfl ?_
            | refine TRun.yes rfl rfl (by omega) rfl ?_
            | refine TRun.no rfl rfl (by omega) rfl ?_
            | refine TRun.split rfl rfl rfl rfl (fun h => ?_) (fun h => ?_))
        | (refine HoldsT.id ?_; first
            | refine HoldsT.seq ?_
            | refine HoldsT.regionU ?_
            | refine HoldsT.drawn tabs ?_
            | refine HoldsT.yes rfl ?_
            | refine HoldsT.no rfl ?_
            | refine HoldsT.cond rfl (fun h => ?_) (fun h => ?_)
            | refine HoldsT.block ?_
            | refine HoldsT.ret ?_
            | refine HoldsT.skip ?_
            | refine HoldsT.exit ?_)
        | (refine okTr_intro ?_; kernel_rfl)
        | exact absurd rfl h
        | exact rowG1 rfl rfl
        | refine allProp_C ?_ ?_
        | refine And.intro ?_ ?_
        | omega
        | (show _ < List.length _; omega)
        | exact rowlen_intro rfl
        | exact lenEq_intro rfl
        | exact Nat.le_of_ble_eq_true rfl
        | (simp only [AV.rowlenD, AV.rowlen, AV.ncells, mulSz, toN, Option.map_some, Option.map_none, cutL, List.length_take, List.length_drop, List.length_append, List.length_cons, List.length_nil, List.length_set, Option.some.injEq, Int.reduceToNat] <;> omega))
      all_goals first | exact FinC.te (y := .bool true) rfl rfl trivial rfl | (exfalso; omega)

set_option maxRecDepth 10000 in
set_option maxHeartbeats 8000000 in
theorem p12_trueL (hc : letterK k = true) : Pure Try.prog 12 [.slS ls, .int .u16 a, .int .u16 b, .int .u8 k, .bool true] (.bool true) := by
      have k27 := p27 ls hL hB
      rw [hok] at k27
      obtain ⟨h0, hl, hr⟩ := light_len hok
      obtain ⟨hp1, hp2, hp3, hp4⟩ := place_of hp
      have hr1 := hr l.toNat
      have k35 := p35 ls l c l c 2 k (by omega) hB hk
      have k38 := net_one hk
      have e : typeL ls l c l c 2 k = ⟨true, l, [ls.getD l.toNat []], [(ls.getD l.toNat []).take c.toNat ++ UInt8.ofNat k.toNat :: (ls.getD l.toNat []).drop (c.toNat + 1)], l, c + 1⟩ := by
        unfold typeL
        rw [if_pos ⟨hp, .inr rfl⟩, if_pos hc, if_neg (by decide)]
      rw [e] at k35
      rw [net_yes hk (.inl hc)] at k38
      have k30 := p30 [ls.getD l.toNat []] (cutL ls (some l.toNat) (some (l + 1).toNat)) (by simp)
      rw [show cutL ls (some l.toNat) (some (l + 1).toNat) = [ls.getD l.toNat []] from mid_one hp1 hp2, decide_eq_true rfl] at k30
      have k30 : Pure Try.prog 30 [.slS [ls.getD l.toNat []], .slS (cutL ls (some l.toNat) (some (l + 1).toNat))] (.bool true) := by
        rw [show cutL ls (some l.toNat) (some (l + 1).toNat) = [ls.getD l.toNat []] from mid_one hp1 hp2]; exact k30
      have k33a := p33 [(ls.getD l.toNat []).take c.toNat ++ UInt8.ofNat k.toNat :: (ls.getD l.toNat []).drop (c.toNat + 1)] (by simp) (by simp only [sumL, List.map_cons, List.map_nil, List.sum_cons, List.sum_nil, List.length_append, List.length_cons, List.length_take, List.length_drop]; omega)
      have k33b := p33 [ls.getD l.toNat []] (by simp) (by simp only [sumL, List.map_cons, List.map_nil, List.sum_cons, List.sum_nil]; omega)
      have hsz : (sizeL [ls.getD l.toNat []] : Int) ≤ (sizeL [(ls.getD l.toNat []).take c.toNat ++ UInt8.ofNat k.toNat :: (ls.getD l.toNat []).drop (c.toNat + 1)] : Int) := by
        simp only [sizeL, sumL, List.map_cons, List.map_nil, List.sum_cons, List.sum_nil, List.length_append, List.length_cons, List.length_nil, List.length_take, List.length_drop]; omega
      have hs2 : sizeL [(ls.getD l.toNat []).take c.toNat ++ UInt8.ofNat k.toNat :: (ls.getD l.toNat []).drop (c.toNat + 1)] ≤ 3000 := by
        simp only [sizeL, sumL, List.map_cons, List.map_nil, List.sum_cons, List.sum_nil, List.length_append, List.length_cons, List.length_nil, List.length_take, List.length_drop]; omega
      have hc2 := of_decide_eq_true hc
      refine Pure.ofT tab_ok Try.func12 rfl rfl [.tmp 10] rfl (by decide) rfl ⟨126, 7, (.node (.node (.node (.node (.node (.node (.node (.leaf (.slS ls)) (J 0)) (J 1)) (J 2)) (J 3)) (.node (.node (.node (.node (.leaf (.bool true)) (J 0)) (J 1)) (J 2)) (J 3))) (.node (.node (.node (.node (.node (.leaf (.int .u16 b)) (J 0)) (J 1)) (J 2)) (J 3)) (J 4))) (.node (.node (.node (.node (.node (.node (.leaf (.int .u16 a)) (J 0)) (J 1)) (J 2)) (J 3)) (J 4)) (.node (.node (.node (.node (.node (.leaf (.int .u8 k)) (J 0)) (J 1)) (J 2)) (J 3)) (J 4)))), (OO 7)⟩ (by kernel_rfl) (by kernel_rfl) ?_
      repeat' (first
        | refine allProp_T ?_
        | exact trivial
        | (refine URun.id ?_; first
            | refine URun.nil ?_
            | refine URun.many tabs rfl rfl (by kernel_rfl) ?_ ?_
            | (refine URun.toCall 34 rfl ?_; first
              | refine URun.call tabs rfl rfl rfl rfl p34 rfl rfl ?_ rfl ?_)
            | (refine URun.toCall 27 rfl ?_; first
              | refine URun.call tabs rfl rfl rfl rfl k27 rfl rfl ?_ rfl ?_)
            | (refine URun.toCall 28 rfl ?_; first
              | refine URun.call tabs rfl rfl rfl rfl k28 rfl rfl ?_ rfl ?_)
            | (refine URun.toCall 35 rfl ?_; first
              | refine URun.call tabs rfl rfl rfl rfl k35 rfl rfl ?_ rfl ?_)
            | (refine URun.toCall 38 rfl ?_; first
              | refine URun.call tabs rfl rfl rfl rfl k38 rfl rfl ?_ rfl ?_)
            | (refine URun.toCall 37 rfl ?_; first
              | refine URun.call tabs rfl rfl rfl rfl k37z rfl rfl ?_ rfl ?_)
            | (refine URun.toCall 30 rfl ?_; first
              | refine URun.call tabs rfl rfl rfl rfl k30 rfl rfl ?_ rfl ?_)
            | (refine URun.toCall 33 rfl ?_; first
              | refine URun.call tabs rfl rfl rfl rfl k33a rfl rfl ?_ rfl ?_
              | refine URun.call tabs rfl rfl rfl rfl k33b rfl rfl ?_ rfl ?_)
            | refine URun.same tabs rfl rfl rfl ?_
            | refine URun.same2 tabs rfl rfl rfl ?_
            | refine URun.yes tabs rfl rfl (fun h => h rfl) rfl ?_
            | refine URun.no tabs rfl rfl (fun h => h rfl) rfl ?_
            | refine URun.yes tabs rfl rfl (fun h => h ⟨rfl, rfl⟩) rfl ?_
            | refine URun.no tabs rfl rfl (fun h => h ⟨rfl, rfl⟩) rfl ?_
            | refine URun.yes tabs rfl rfl hsz rfl ?_
            | refine URun.no tabs rfl rfl hsz rfl ?_
            | refine URun.yes tabs rfl rfl (len1 _) rfl ?_
            | refine URun.no tabs rfl rfl (len1 _) rfl ?_
            | refine URun.yes tabs rfl rfl (by decide) rfl ?_
            | refine URun.no tabs rfl rfl (by decide) rfl ?_
            | refine URun.yes tabs rfl rfl (by omega) rfl ?_
            | refine URun.no tabs rfl rfl (by omega) rfl ?_
            | refine URun.split tabs rfl rfl rfl rfl (fun h => ?_) (fun h => ?_))
        | (refine TRun.id ?_; first
            | refine TRun.nil ?_
            | refine TRun.many rfl rfl (by kernel_rfl) ?_ ?_
            | (refine TRun.toCall 34 rfl ?_; first
              | refine TRun.call rfl rfl rfl rfl p34 rfl rfl ?_ rfl ?_)
            | (refine TRun.toCall 27 rfl ?_; first
              | refine TRun.call rfl rfl rfl rfl k27 rfl rfl ?_ rfl ?_)
            | (refine TRun.toCall 28 rfl ?_; first
              | refine TRun.call rfl rfl rfl rfl k28 rfl rfl ?_ rfl ?_)
            | (refine TRun.toCall 35 rfl ?_; first
              | refine TRun.call rfl rfl rfl rfl k35 rfl rfl ?_ rfl ?_)
            | (refine TRun.toCall 38 rfl ?_; first
              | refine TRun.call rfl rfl rfl rfl k38 rfl rfl ?_ rfl ?_)
            | (refine TRun.toCall 37 rfl ?_; first
              | refine TRun.call rfl rfl rfl rfl k37z rfl rfl ?_ rfl ?_)
            | (refine TRun.toCall 30 rfl ?_; first
              | refine TRun.call rfl rfl rfl rfl k30 rfl rfl ?_ rfl ?_)
            | (refine TRun.toCall 33 rfl ?_; first
              | refine TRun.call rfl rfl rfl rfl k33a rfl rfl ?_ rfl ?_
              | refine TRun.call rfl rfl rfl rfl k33b rfl rfl ?_ rfl ?_)
            | refine TRun.same rfl rfl rfl ?_
            | refine TRun.same2 rfl rfl rfl ?_
            | refine TRun.yes rfl rfl (fun h => h rfl) rfl ?_
            | refine TRun.no rfl rfl (fun h => h rfl) rfl ?_
            | refine TRun.yes rfl rfl (fun h => h ⟨rfl, rfl⟩) rfl ?_
            | refine TRun.no rfl rfl (fun h => h ⟨rfl, rfl⟩) rfl ?_
            | refine TRun.yes rfl rfl hsz rfl ?_
            | refine TRun.no rfl rfl hsz rfl ?_
            | refine TRun.yes rfl rfl (len1 _) rfl ?_
            | refine TRun.no rfl rfl (len1 _) rfl ?_
            | refine TRun.yes rfl rfl (by decide) rfl ?_
            | refine TRun.no rfl rfl (by decide) rfl ?_
            | refine TRun.yes rfl rfl (by omega) rfl ?_
            | refine TRun.no rfl rfl (by omega) rfl ?_
            | refine TRun.split rfl rfl rfl rfl (fun h => ?_) (fun h => ?_))
        | (refine HoldsT.id ?_; first
            | refine HoldsT.seq ?_
            | refine HoldsT.regionU ?_
            | refine HoldsT.drawn tabs ?_
            | refine HoldsT.yes rfl ?_
            | refine HoldsT.no rfl ?_
            | refine HoldsT.cond rfl (fun h => ?_) (fun h => ?_)
            | refine HoldsT.block ?_
            | refine HoldsT.ret ?_
            | refine HoldsT.skip ?_
            | refine HoldsT.exit ?_)
        | (refine okTr_intro ?_; kernel_rfl)
        | exact absurd rfl h
        | exact rowG1 rfl rfl
        | refine allProp_C ?_ ?_
        | refine And.intro ?_ ?_
        | omega
        | (show _ < List.length _; omega)
        | exact rowlen_intro rfl
        | exact lenEq_intro rfl
        | exact Nat.le_of_ble_eq_true rfl
        | (simp only [AV.rowlenD, AV.rowlen, AV.ncells, mulSz, toN, Option.map_some, Option.map_none, cutL, List.length_take, List.length_drop, List.length_append, List.length_cons, List.length_nil, List.length_set, Option.some.injEq, Int.reduceToNat] <;> omega))
      all_goals first | exact FinC.te (y := .bool true) rfl rfl trivial rfl | (exfalso; omega)

set_option maxRecDepth 10000 in
set_option maxHeartbeats 8000000 in
theorem p12_trueB (hc : k = 13 ∨ k = 10) : Pure Try.prog 12 [.slS ls, .int .u16 a, .int .u16 b, .int .u8 k, .bool true] (.bool true) := by
      have k27 := p27 ls hL hB
      rw [hok] at k27
      obtain ⟨h0, hl, hr⟩ := light_len hok
      obtain ⟨hp1, hp2, hp3, hp4⟩ := place_of hp
      have hr1 := hr l.toNat
      have k35 := p35 ls l c l c 2 k (by omega) hB hk
      have k38 := net_one hk
      have e : typeL ls l c l c 2 k = ⟨true, l, [ls.getD l.toNat []], [(ls.getD l.toNat []).take c.toNat, (ls.getD l.toNat []).drop c.toNat], l + 1, 0⟩ := by
        unfold typeL
        rw [if_pos ⟨hp, .inr rfl⟩, if_neg (by rw [letter_not hc]; decide), if_pos hc]
      rw [e] at k35
      rw [net_yes hk (.inr hc)] at k38
      have k30 := p30 [ls.getD l.toNat []] (cutL ls (some l.toNat) (some (l + 1).toNat)) (by simp)
      rw [show cutL ls (some l.toNat) (some (l + 1).toNat) = [ls.getD l.toNat []] from mid_one hp1 hp2, decide_eq_true rfl] at k30
      have k30 : Pure Try.prog 30 [.slS [ls.getD l.toNat []], .slS (cutL ls (some l.toNat) (some (l + 1).toNat))] (.bool true) := by
        rw [show cutL ls (some l.toNat) (some (l + 1).toNat) = [ls.getD l.toNat []] from mid_one hp1 hp2]; exact k30
      have k33a := p33 [(ls.getD l.toNat []).take c.toNat, (ls.getD l.toNat []).drop c.toNat] (by simp) (by simp only [sumL, List.map_cons, List.map_nil, List.sum_cons, List.sum_nil, List.length_append, List.length_cons, List.length_take, List.length_drop]; omega)
      have k33b := p33 [ls.getD l.toNat []] (by simp) (by simp only [sumL, List.map_cons, List.map_nil, List.sum_cons, List.sum_nil]; omega)
      have hsz : (sizeL [ls.getD l.toNat []] : Int) ≤ (sizeL [(ls.getD l.toNat []).take c.toNat, (ls.getD l.toNat []).drop c.toNat] : Int) := by
        simp only [sizeL, sumL, List.map_cons, List.map_nil, List.sum_cons, List.sum_nil, List.length_append, List.length_cons, List.length_nil, List.length_take, List.length_drop]; omega
      have hs2 : sizeL [(ls.getD l.toNat []).take c.toNat, (ls.getD l.toNat []).drop c.toNat] ≤ 3000 := by
        simp only [sizeL, sumL, List.map_cons, List.map_nil, List.sum_cons, List.sum_nil, List.length_append, List.length_cons, List.length_nil, List.length_take, List.length_drop]; omega
      have hc2 := hc
      refine Pure.ofT tab_ok Try.func12 rfl rfl [.tmp 10] rfl (by decide) rfl ⟨126, 7, (.node (.node (.node (.node (.node (.node (.node (.leaf (.slS ls)) (J 0)) (J 1)) (J 2)) (J 3)) (.node (.node (.node (.node (.leaf (.bool true)) (J 0)) (J 1)) (J 2)) (J 3))) (.node (.node (.node (.node (.node (.leaf (.int .u16 b)) (J 0)) (J 1)) (J 2)) (J 3)) (J 4))) (.node (.node (.node (.node (.node (.node (.leaf (.int .u16 a)) (J 0)) (J 1)) (J 2)) (J 3)) (J 4)) (.node (.node (.node (.node (.node (.leaf (.int .u8 k)) (J 0)) (J 1)) (J 2)) (J 3)) (J 4)))), (OO 7)⟩ (by kernel_rfl) (by kernel_rfl) ?_
      repeat' (first
        | refine allProp_T ?_
        | exact trivial
        | (refine URun.id ?_; first
            | refine URun.nil ?_
            | refine URun.many tabs rfl rfl (by kernel_rfl) ?_ ?_
            | (refine URun.toCall 34 rfl ?_; first
              | refine URun.call tabs rfl rfl rfl rfl p34 rfl rfl ?_ rfl ?_)
            | (refine URun.toCall 27 rfl ?_; first
              | refine URun.call tabs rfl rfl rfl rfl k27 rfl rfl ?_ rfl ?_)
            | (refine URun.toCall 28 rfl ?_; first
              | refine URun.call tabs rfl rfl rfl rfl k28 rfl rfl ?_ rfl ?_)
            | (refine URun.toCall 35 rfl ?_; first
              | refine URun.call tabs rfl rfl rfl rfl k35 rfl rfl ?_ rfl ?_)
            | (refine URun.toCall 38 rfl ?_; first
              | refine URun.call tabs rfl rfl rfl rfl k38 rfl rfl ?_ rfl ?_)
            | (refine URun.toCall 37 rfl ?_; first
              | refine URun.call tabs rfl rfl rfl rfl k37z rfl rfl ?_ rfl ?_)
            | (refine URun.toCall 30 rfl ?_; first
              | refine URun.call tabs rfl rfl rfl rfl k30 rfl rfl ?_ rfl ?_)
            | (refine URun.toCall 33 rfl ?_; first
              | refine URun.call tabs rfl rfl rfl rfl k33a rfl rfl ?_ rfl ?_
              | refine URun.call tabs rfl rfl rfl rfl k33b rfl rfl ?_ rfl ?_)
            | refine URun.same tabs rfl rfl rfl ?_
            | refine URun.same2 tabs rfl rfl rfl ?_
            | refine URun.yes tabs rfl rfl (fun h => h rfl) rfl ?_
            | refine URun.no tabs rfl rfl (fun h => h rfl) rfl ?_
            | refine URun.yes tabs rfl rfl (fun h => h ⟨rfl, rfl⟩) rfl ?_
            | refine URun.no tabs rfl rfl (fun h => h ⟨rfl, rfl⟩) rfl ?_
            | refine URun.yes tabs rfl rfl hsz rfl ?_
            | refine URun.no tabs rfl rfl hsz rfl ?_
            | refine URun.yes tabs rfl rfl (len1 _) rfl ?_
            | refine URun.no tabs rfl rfl (len1 _) rfl ?_
            | refine URun.yes tabs rfl rfl (by decide) rfl ?_
            | refine URun.no tabs rfl rfl (by decide) rfl ?_
            | refine URun.yes tabs rfl rfl (by omega) rfl ?_
            | refine URun.no tabs rfl rfl (by omega) rfl ?_
            | refine URun.split tabs rfl rfl rfl rfl (fun h => ?_) (fun h => ?_))
        | (refine TRun.id ?_; first
            | refine TRun.nil ?_
            | refine TRun.many rfl rfl (by kernel_rfl) ?_ ?_
            | (refine TRun.toCall 34 rfl ?_; first
              | refine TRun.call rfl rfl rfl rfl p34 rfl rfl ?_ rfl ?_)
            | (refine TRun.toCall 27 rfl ?_; first
              | refine TRun.call rfl rfl rfl rfl k27 rfl rfl ?_ rfl ?_)
            | (refine TRun.toCall 28 rfl ?_; first
              | refine TRun.call rfl rfl rfl rfl k28 rfl rfl ?_ rfl ?_)
            | (refine TRun.toCall 35 rfl ?_; first
              | refine TRun.call rfl rfl rfl rfl k35 rfl rfl ?_ rfl ?_)
            | (refine TRun.toCall 38 rfl ?_; first
              | refine TRun.call rfl rfl rfl rfl k38 rfl rfl ?_ rfl ?_)
            | (refine TRun.toCall 37 rfl ?_; first
              | refine TRun.call rfl rfl rfl rfl k37z rfl rfl ?_ rfl ?_)
            | (refine TRun.toCall 30 rfl ?_; first
              | refine TRun.call rfl rfl rfl rfl k30 rfl rfl ?_ rfl ?_)
            | (refine TRun.toCall 33 rfl ?_; first
              | refine TRun.call rfl rfl rfl rfl k33a rfl rfl ?_ rfl ?_
              | refine TRun.call rfl rfl rfl rfl k33b rfl rfl ?_ rfl ?_)
            | refine TRun.same rfl rfl rfl ?_
            | refine TRun.same2 rfl rfl rfl ?_
            | refine TRun.yes rfl rfl (fun h => h rfl) rfl ?_
            | refine TRun.no rfl rfl (fun h => h rfl) rfl ?_
            | refine TRun.yes rfl rfl (fun h => h ⟨rfl, rfl⟩) rfl ?_
            | refine TRun.no rfl rfl (fun h => h ⟨rfl, rfl⟩) rfl ?_
            | refine TRun.yes rfl rfl hsz rfl ?_
            | refine TRun.no rfl rfl hsz rfl ?_
            | refine TRun.yes rfl rfl (len1 _) rfl ?_
            | refine TRun.no rfl rfl (len1 _) rfl ?_
            | refine TRun.yes rfl rfl (by decide) rfl ?_
            | refine TRun.no rfl rfl (by decide) rfl ?_
            | refine TRun.yes rfl rfl (by omega) rfl ?_
            | refine TRun.no rfl rfl (by omega) rfl ?_
            | refine TRun.split rfl rfl rfl rfl (fun h => ?_) (fun h => ?_))
        | (refine HoldsT.id ?_; first
            | refine HoldsT.seq ?_
            | refine HoldsT.regionU ?_
            | refine HoldsT.drawn tabs ?_
            | refine HoldsT.yes rfl ?_
            | refine HoldsT.no rfl ?_
            | refine HoldsT.cond rfl (fun h => ?_) (fun h => ?_)
            | refine HoldsT.block ?_
            | refine HoldsT.ret ?_
            | refine HoldsT.skip ?_
            | refine HoldsT.exit ?_)
        | (refine okTr_intro ?_; kernel_rfl)
        | exact absurd rfl h
        | exact rowG1 rfl rfl
        | refine allProp_C ?_ ?_
        | refine And.intro ?_ ?_
        | omega
        | (show _ < List.length _; omega)
        | exact rowlen_intro rfl
        | exact lenEq_intro rfl
        | exact Nat.le_of_ble_eq_true rfl
        | (simp only [AV.rowlenD, AV.rowlen, AV.ncells, mulSz, toN, Option.map_some, Option.map_none, cutL, List.length_take, List.length_drop, List.length_append, List.length_cons, List.length_nil, List.length_set, Option.some.injEq, Int.reduceToNat] <;> omega))
      all_goals first | exact FinC.te (y := .bool true) rfl rfl trivial rfl | (exfalso; omega)

set_option maxRecDepth 10000 in
set_option maxHeartbeats 8000000 in
theorem p12_trueN (hc : ¬ (letterK k = true ∨ k = 13 ∨ k = 10)) : Pure Try.prog 12 [.slS ls, .int .u16 a, .int .u16 b, .int .u8 k, .bool true] (.bool true) := by
      have k27 := p27 ls hL hB
      rw [hok] at k27
      obtain ⟨h0, hl, hr⟩ := light_len hok
      obtain ⟨hp1, hp2, hp3, hp4⟩ := place_of hp
      have hr1 := hr l.toNat
      have k35 := p35 ls l c l c 2 k (by omega) hB hk
      have k38 := net_one hk
      have e : typeL ls l c l c 2 k = tyNo := by
        unfold typeL
        rw [if_pos ⟨hp, .inr rfl⟩, if_neg (fun h => hc (.inl h)), if_neg (fun h => hc (.inr h)), if_neg (fun h => by omega)]
      rw [e] at k35
      rw [net_no hk hc] at k38
      have hc2 : ¬ ((32 ≤ k ∧ k ≠ 127) ∨ k = 9) ∧ ¬ (k = 13 ∨ k = 10) := ⟨fun h => hc (.inl (decide_eq_true h)), fun h => hc (.inr h)⟩
      refine Pure.ofT tab_ok Try.func12 rfl rfl [.tmp 10] rfl (by decide) rfl ⟨126, 7, (.node (.node (.node (.node (.node (.node (.node (.leaf (.slS ls)) (J 0)) (J 1)) (J 2)) (J 3)) (.node (.node (.node (.node (.leaf (.bool true)) (J 0)) (J 1)) (J 2)) (J 3))) (.node (.node (.node (.node (.node (.leaf (.int .u16 b)) (J 0)) (J 1)) (J 2)) (J 3)) (J 4))) (.node (.node (.node (.node (.node (.node (.leaf (.int .u16 a)) (J 0)) (J 1)) (J 2)) (J 3)) (J 4)) (.node (.node (.node (.node (.node (.leaf (.int .u8 k)) (J 0)) (J 1)) (J 2)) (J 3)) (J 4)))), (OO 7)⟩ (by kernel_rfl) (by kernel_rfl) ?_
      repeat' (first
        | refine allProp_T ?_
        | exact trivial
        | (refine URun.id ?_; first
            | refine URun.nil ?_
            | refine URun.many tabs rfl rfl (by kernel_rfl) ?_ ?_
            | (refine URun.toCall 34 rfl ?_; first
              | refine URun.call tabs rfl rfl rfl rfl p34 rfl rfl ?_ rfl ?_)
            | (refine URun.toCall 27 rfl ?_; first
              | refine URun.call tabs rfl rfl rfl rfl k27 rfl rfl ?_ rfl ?_)
            | (refine URun.toCall 28 rfl ?_; first
              | refine URun.call tabs rfl rfl rfl rfl k28 rfl rfl ?_ rfl ?_)
            | (refine URun.toCall 35 rfl ?_; first
              | refine URun.call tabs rfl rfl rfl rfl k35 rfl rfl ?_ rfl ?_)
            | (refine URun.toCall 38 rfl ?_; first
              | refine URun.call tabs rfl rfl rfl rfl k38 rfl rfl ?_ rfl ?_)
            | (refine URun.toCall 37 rfl ?_; first
              | refine URun.call tabs rfl rfl rfl rfl k37z rfl rfl ?_ rfl ?_)
            | refine URun.same tabs rfl rfl rfl ?_
            | refine URun.same2 tabs rfl rfl rfl ?_
            | refine URun.yes tabs rfl rfl (fun h => h rfl) rfl ?_
            | refine URun.no tabs rfl rfl (fun h => h rfl) rfl ?_
            | refine URun.yes tabs rfl rfl (fun h => h ⟨rfl, rfl⟩) rfl ?_
            | refine URun.no tabs rfl rfl (fun h => h ⟨rfl, rfl⟩) rfl ?_
            | refine URun.yes tabs rfl rfl (len1 _) rfl ?_
            | refine URun.no tabs rfl rfl (len1 _) rfl ?_
            | refine URun.yes tabs rfl rfl (by decide) rfl ?_
            | refine URun.no tabs rfl rfl (by decide) rfl ?_
            | refine URun.yes tabs rfl rfl (by omega) rfl ?_
            | refine URun.no tabs rfl rfl (by omega) rfl ?_
            | refine URun.split tabs rfl rfl rfl rfl (fun h => ?_) (fun h => ?_))
        | (refine TRun.id ?_; first
            | refine TRun.nil ?_
            | refine TRun.many rfl rfl (by kernel_rfl) ?_ ?_
            | (refine TRun.toCall 34 rfl ?_; first
              | refine TRun.call rfl rfl rfl rfl p34 rfl rfl ?_ rfl ?_)
            | (refine TRun.toCall 27 rfl ?_; first
              | refine TRun.call rfl rfl rfl rfl k27 rfl rfl ?_ rfl ?_)
            | (refine TRun.toCall 28 rfl ?_; first
              | refine TRun.call rfl rfl rfl rfl k28 rfl rfl ?_ rfl ?_)
            | (refine TRun.toCall 35 rfl ?_; first
              | refine TRun.call rfl rfl rfl rfl k35 rfl rfl ?_ rfl ?_)
            | (refine TRun.toCall 38 rfl ?_; first
              | refine TRun.call rfl rfl rfl rfl k38 rfl rfl ?_ rfl ?_)
            | (refine TRun.toCall 37 rfl ?_; first
              | refine TRun.call rfl rfl rfl rfl k37z rfl rfl ?_ rfl ?_)
            | refine TRun.same rfl rfl rfl ?_
            | refine TRun.same2 rfl rfl rfl ?_
            | refine TRun.yes rfl rfl (fun h => h rfl) rfl ?_
            | refine TRun.no rfl rfl (fun h => h rfl) rfl ?_
            | refine TRun.yes rfl rfl (fun h => h ⟨rfl, rfl⟩) rfl ?_
            | refine TRun.no rfl rfl (fun h => h ⟨rfl, rfl⟩) rfl ?_
            | refine TRun.yes rfl rfl (len1 _) rfl ?_
            | refine TRun.no rfl rfl (len1 _) rfl ?_
            | refine TRun.yes rfl rfl (by decide) rfl ?_
            | refine TRun.no rfl rfl (by decide) rfl ?_
            | refine TRun.yes rfl rfl (by omega) rfl ?_
            | refine TRun.no rfl rfl (by omega) rfl ?_
            | refine TRun.split rfl rfl rfl rfl (fun h => ?_) (fun h => ?_))
        | (refine HoldsT.id ?_; first
            | refine HoldsT.seq ?_
            | refine HoldsT.regionU ?_
            | refine HoldsT.drawn tabs ?_
            | refine HoldsT.yes rfl ?_
            | refine HoldsT.no rfl ?_
            | refine HoldsT.cond rfl (fun h => ?_) (fun h => ?_)
            | refine HoldsT.block ?_
            | refine HoldsT.ret ?_
            | refine HoldsT.skip ?_
            | refine HoldsT.exit ?_)
        | (refine okTr_intro ?_; kernel_rfl)
        | exact absurd rfl h
        | exact rowG1 rfl rfl
        | refine allProp_C ?_ ?_
        | refine And.intro ?_ ?_
        | omega
        | (show _ < List.length _; omega)
        | exact rowlen_intro rfl
        | exact lenEq_intro rfl
        | exact Nat.le_of_ble_eq_true rfl
        | (simp only [AV.rowlenD, AV.rowlen, AV.ncells, mulSz, toN, Option.map_some, Option.map_none, cutL, List.length_take, List.length_drop, List.length_append, List.length_cons, List.length_nil, List.length_set, Option.some.injEq, Int.reduceToNat] <;> omega))
      all_goals first | exact FinC.te (y := .bool true) rfl rfl trivial rfl | (exfalso; omega)

end

theorem p12 (ha : inK .u16 a) (hb : inK .u16 b) (hk : inK .u8 k) : Pure Try.prog 12 [.slS ls, .int .u16 a, .int .u16 b, .int .u8 k, .bool o] (.bool true) := by
  cases hok : (decide (0 < (ls.length : Int)) && lightL ls) with
  | false => exact p12_no ls a b k o hL hB hok
  | true =>
    obtain ⟨h0, hl, hr⟩ := light_len hok
    have k28 := p28 ls a b h0 ha hb hB
    have hp := place_ok (ls := ls) h0 ha.1 hb.1
    by_cases h1 : letterK k = true
    · cases o
      · exact p12_falseL ls a b k hL hB hok _ _ hp k28 hk h1
      · exact p12_trueL ls a b k hL hB hok _ _ hp k28 hk h1
    · by_cases h2 : k = 13 ∨ k = 10
      · cases o
        · exact p12_falseB ls a b k hL hB hok _ _ hp k28 hk h2
        · exact p12_trueB ls a b k hL hB hok _ _ hp k28 hk h2
      · cases o
        · exact p12_falseN ls a b k hL hB hok _ _ hp k28 hk (fun h => h.elim h1 h2)
        · exact p12_trueN ls a b k hL hB hok _ _ hp k28 hk (fun h => h.elim h1 h2)
end

end Go.Proofs.Ytefbgdnobnemkaa.AM
