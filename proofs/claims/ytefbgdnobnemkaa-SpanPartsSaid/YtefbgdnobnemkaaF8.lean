/-
  Places of numbers.
-/
import Derived.Test.YtefbgdnobnemkaaF7
namespace Go.Proofs.Ytefbgdnobnemkaa.AM
open Go Go.RowKit

def plL (ls : List (List UInt8)) (a : Int) : Int := a.tmod ls.length
def plC (ls : List (List UInt8)) (a b : Int) : Int := b.tmod (((ls.getD (plL ls a).toNat []).length : Int) + 1)

theorem tmod_in {a n : Int} (ha : 0 ≤ a) (hn : 0 < n) : 0 ≤ a.tmod n ∧ a.tmod n < n := ⟨Int.tmod_nonneg n ha, Int.tmod_lt_of_pos a hn⟩

theorem place_ok {ls : List (List UInt8)} {a b : Int} (h0 : 0 < (ls.length : Int)) (ha : 0 ≤ a) (hb : 0 ≤ b) : placeL ls (plL ls a) (plC ls a b) = true := by
  have h1 := tmod_in ha h0
  have h2 : 0 ≤ plC ls a b ∧ plC ls a b < ((ls.getD (plL ls a).toNat []).length : Int) + 1 := tmod_in hb (by omega)
  exact decide_eq_true ⟨h1.1, h1.2, h2.1, by omega⟩

set_option maxRecDepth 10000 in
set_option maxHeartbeats 4000000 in
theorem p28 (ls : List (List UInt8)) (a b : Int) (h0 : 0 < (ls.length : Int)) (ha : 0 ≤ a ∧ a ≤ 65535) (hb : 0 ≤ b ∧ b ≤ 65535) (hB : ∀ n : Nat, (ls.getD n []).length ≤ 140737488355328) : Pure Try.prog 28 [.slS ls, .int .u16 a, .int .u16 b] (.agg [.int .i64 (plL ls a), .int .i64 (plC ls a b)]) := by
  have h1 := tmod_in ha.1 h0
  have hb1 := hB (a.tmod ls.length).toNat
  refine Pure.ofC tab_ok Try.func28 rfl rfl [.cell 6 23] rfl (by decide) rfl ?_
  repeat' (first
    | exact trivial
    | exact absurd rfl h
    | exact ⟨trivial, of_decide_eq_true rfl⟩
    | exact Nat.le_of_ble_eq_true rfl
    | (refine okTr_intro ?_; kernel_rfl)
    | refine Holds.seq ?_
    | refine Holds.region tabs ?_
    | refine Holds.drawn tabs ?_
    | refine Holds.ret ?_
    | refine Holds.skip ?_
    | refine Holds.exit ?_
    | refine Holds.block ?_
    | refine Holds.cond_true rfl ?_
    | refine Holds.cond_false rfl ?_
    | refine Holds.cond rfl (fun h => ?_) (fun h => ?_)
    | refine ARun.nil ?_
    | refine ARun.skip rfl (s1 := ⟨_::_::_::_::_::_::_::_::_::_::_::_::_::_::_::_::_::_::_::_::_::_::_::_::[],_::_::_::_::_::_::_::_::_::_::_::_::_::_::_::_::_::_::_::_::_::_::_::_::[]⟩) rfl ?_
    | refine ARun.valF rfl rfl rfl (s1 := ⟨_::_::_::_::_::_::_::_::_::_::_::_::_::_::_::_::_::_::_::_::_::_::_::_::[],_::_::_::_::_::_::_::_::_::_::_::_::_::_::_::_::_::_::_::_::_::_::_::_::[]⟩) rfl ?_ ?_
    | refine ARun.testE rfl rfl (s1 := ⟨_::_::_::_::_::_::_::_::_::_::_::_::_::_::_::_::_::_::_::_::_::_::_::_::[],_::_::_::_::_::_::_::_::_::_::_::_::_::_::_::_::_::_::_::_::_::_::_::_::[]⟩) rfl ?_
    | refine ARun.testEE rfl rfl (s1 := ⟨_::_::_::_::_::_::_::_::_::_::_::_::_::_::_::_::_::_::_::_::_::_::_::_::[],_::_::_::_::_::_::_::_::_::_::_::_::_::_::_::_::_::_::_::_::_::_::_::_::[]⟩) rfl ?_
    | refine ARun.split rfl rfl (s1 := ⟨_::_::_::_::_::_::_::_::_::_::_::_::_::_::_::_::_::_::_::_::_::_::_::_::[],_::_::_::_::_::_::_::_::_::_::_::_::_::_::_::_::_::_::_::_::_::_::_::_::[]⟩) rfl (s2 := ⟨_::_::_::_::_::_::_::_::_::_::_::_::_::_::_::_::_::_::_::_::_::_::_::_::[],_::_::_::_::_::_::_::_::_::_::_::_::_::_::_::_::_::_::_::_::_::_::_::_::[]⟩) rfl (fun h => ?_) (fun h => ?_)
    | refine And.intro ?_ ?_
    | omega
    | (show _ < List.length _; omega)
    | exact rowlen_intro rfl
    | (simp only [AV.rowlenD, List.length_cons, List.length_nil]; omega))
  exact FinC.mk' (tab := tab) (r' := .agg [.int .i64 _, .int .i64 _]) rfl rfl ⟨trivial, trivial, trivial⟩ rfl

end Go.Proofs.Ytefbgdnobnemkaa.AM
