/-
  The cells of a text, one behind another: what the iterator yields (a range over a function).
-/
import Derived.RangeFuncNested
import Derived.RangeFuncBound
import Derived.RangeFuncCalls
import Derived.RangeFuncLeaves
import Derived.RangeFuncBox
import Derived.Shelf.Abstract
import Derived.Shelf.RegionOpen
import Derived.WalkKit
import Derived.OwnWalkIn
import Derived.TacticsInMore
import Derived.LoopNIn
import Derived.LoopIn
import Derived.Sort.BigQuietIn
import Derived.Lib.QuietBelowIn
import Derived.Test.YtefbgdnobnemkaaProg
namespace Go.Proofs.Ytefbgdnobnemkaa
open Go Go.RowKit Go.Shelf
attribute [local go_sem] Oper.semAt_some
namespace CellsIt

def row (ls : Nat → List UInt8) (i : Nat) : List ((Nat × Nat) × UInt8) := (List.range (ls i).length).map fun j => ((i, j), (ls i)[j]?.getD 0)
def upto (ls : Nat → List UInt8) (i j : Nat) : List ((Nat × Nat) × UInt8) := (List.range i).flatMap (row ls) ++ (row ls i).take j
def all (ls : Nat → List UInt8) (m : Nat) : List ((Nat × Nat) × UInt8) := (List.range m).flatMap (row ls)
theorem row_len (ls : Nat → List UInt8) (i : Nat) : (row ls i).length = (ls i).length := by simp [row]
theorem upto_succ (ls : Nat → List UInt8) (i : Nat) {j : Nat} (h : j < (ls i).length) : upto ls i (j + 1) = upto ls i j ++ [((i, j), (ls i)[j]?.getD 0)] := by
  have hj : j < (row ls i).length := by rw [row_len]; exact h
  unfold upto
  rw [List.append_assoc]
  congr 1
  rw [List.take_add_one, List.getElem?_eq_getElem hj]
  simp [row]
theorem upto_next (ls : Nat → List UInt8) (i : Nat) : upto ls i (ls i).length = upto ls (i + 1) 0 := by
  unfold upto
  rw [← row_len, List.take_length, List.range_succ, List.flatMap_append]
  simp
theorem upto_all (ls : Nat → List UInt8) (m : Nat) : upto ls m 0 = all ls m := by simp [upto, all]
theorem upto_prefix (ls : Nat → List UInt8) {m i : Nat} (j : Nat) (h : i < m) : upto ls i j <+: all ls m := by
  have e : List.range m = List.range i ++ ([i] ++ (List.range (m - i - 1)).map (i + 1 + ·)) := by
    apply List.ext_getElem
    · simp; omega
    · intro k h1 h2
      simp only [List.getElem_range, List.getElem_append, List.length_range, List.length_singleton]
      split
      · rfl
      · split
        · simp; omega
        · simp; omega
  unfold upto all
  rw [e, List.flatMap_append, List.flatMap_append]
  refine List.prefix_append_right_inj _ |>.2 ?_
  simp only [List.flatMap_cons, List.flatMap_nil, List.append_nil]
  exact (List.take_prefix _ _).trans (List.prefix_append _ _)
theorem upto_lt (ls : Nat → List UInt8) {m i j : Nat} (h : i < m) (hj : j < (ls i).length) : (upto ls i j).length < (all ls m).length := by
  have h1 := (upto_prefix ls (j + 1) h).length_le
  rw [upto_succ ls i hj] at h1
  simp at h1; omega
theorem next_eq (ls : Nat → List UInt8) {m i j : Nat} (h : i < m) (hj : j < (ls i).length) {x : ((Nat × Nat) × UInt8)} (hx : upto ls i j ++ [x] <+: all ls m) : x = ((i, j), (ls i)[j]?.getD 0) := by
  have h1 := upto_prefix ls (m := m) (j + 1) h
  rw [upto_succ ls i hj] at h1
  have h2 := (List.prefix_of_prefix_length_le hx h1 (by simp)).eq_of_length (by simp)
  have h3 := (List.append_inj h2 rfl).2
  simpa using h3
theorem all_len (ls : Nat → List UInt8) (hS : ∀ i : Nat, (ls i).length ≤ 2000) : ∀ m : Nat, (all ls m).length ≤ m * 2000
  | 0 => by simp [all]
  | m + 1 => by
    have h := all_len ls hS m
    have h2 := hS m
    have e : all ls (m + 1) = all ls m ++ row ls m := by simp [all, List.range_succ]
    rw [e, List.length_append, row_len]
    omega
def enc (x : ((Nat × Nat) × UInt8)) : Array Value := #[.agg #[.int .i64 (x.1.1 : Int), .int .i64 (x.1.2 : Int)], .int .u8 (x.2.toNat : Int)]

set_option maxRecDepth 100000 in
set_option maxHeartbeats 4000000 in
theorem cells1_in (F : Fence) (n : Nat) (h57 : F.fn 57) (hro : F.round = none) (hn : 1 ≤ n) (l Bs n₀ b off cap m : Nat) (a : Option Addr) (ha : 0 < m → a = some ⟨b, off, none⟩) (ls : Nat → List UInt8) (hL : m ≤ 1000000) (hS : ∀ i : Nat, (ls i).length ≤ 1000000) (hb : 0 < m → b < n₀) (J Jx : List ((Nat × Nat) × UInt8) → World → Prop)
    (hY : ∀ pre x W, J pre W → pre.length < (all ls m).length → YieldAt F (n - 1) Try.prog l (enc x) W fun e W' =>
      (e = .returned (.bool true) ∧ J (pre ++ [x]) W' ∧ Below n₀ W W') ∨ (e = .returned (.bool false) ∧ Jx (pre ++ [x]) W'))
    (W : World) (hBs : W.cell? ⟨Bs, 0, none⟩ = some (.slice a m cap)) (hc : ∀ j, j < m → W.cell? ⟨b, off + j, none⟩ = some (.string ⟨(ls j).toArray⟩)) (h0 : J [] W) :
    CallsIn F n Try.prog 57 #[.func (.yield l) #[] #[], .pointer (some ⟨Bs, 0, none⟩)] W fun e W' => (∃ v, e = .returned v) ∧
      ((∃ ys, ys = all ls m ∧ J ys W') ∨ (∃ pre, pre <+: all ls m ∧ Jx pre W')) := by
  refine callsIn_of_wp Try.func57 rfl h57 ?_ hro
  simp only [Try.ntmps57, List.size_toArray, List.length_cons, List.length_nil, Nat.reduceAdd, Nat.reduceSub, Array.replicate_succ, Array.replicate_zero, List.push_toArray, List.append_toArray, List.nil_append, List.cons_append]
  gi_wp2
  gi_loopw [8] (fun i wr => ∃ k : Nat, k ≤ m ∧ i = .int .i64 k ∧ J (upto ls k 0) wr ∧ Below n₀ W wr)
    (fun i _ => m - (intOf i).toNat)
  case atStart => exact ⟨0, Nat.zero_le _, rfl, by simpa [upto] using h0, Below.refl _ _⟩
  case round =>
    obtain ⟨k, hk, rfl, hJs, hnx⟩ := hrel
    have hcx : k < m → wr.cell? ⟨b, off + k, none⟩ = some (.string ⟨(ls k).toArray⟩) := fun h => (hnx.cell (p := ⟨b, off + k, none⟩) (hb (by omega))).trans (hc k h)
    by_cases hlt : k < m
    · obtain rfl := ha (by omega)
      have hcx' := hcx hlt
      have hSk := hS k
      gi_wp2
      gi_loopw [15] (fun i wr => ∃ j : Nat, j ≤ (ls k).length ∧ i = .int .i64 j ∧ J (upto ls k j) wr ∧ Below n₀ W wr)
        (fun i _ => (ls k).length - (intOf i).toNat)
      case atStart => exact ⟨0, Nat.zero_le _, rfl, hJs, hnx⟩
      case round =>
        obtain ⟨j, hj, rfl, hJ2, hn2⟩ := hrel
        by_cases hlj : j < (ls k).length
        · obtain ⟨fn, tmps, assign, body, hy, hR⟩ := hY _ ((k, j), (ls k)[j]?.getD 0) _ hJ2 (upto_lt ls hlt hlj)
          have hz : j < (ByteArray.mk (ls k).toArray).size := by simpa [ByteArray.size] using hlj
          have e : (ls k)[j]?.getD 0 = (ByteArray.mk (ls k).toArray)[j]'hz := by
            show _ = (ls k).toArray[j]'_
            simp [hlj]
          dsimp only [enc] at hy
          rw [e] at hy
          gi_wp2
          refine hR.mono ?_
          rintro e' W3 (⟨rfl, hJ3, hk3⟩ | ⟨rfl, hJx3⟩)
          · gi_wp2
            go_roundw
            case rel => exact ⟨j + 1, by omega, by simp, by rw [upto_succ ls k hlj]; exact hJ3, hn2.trans hk3⟩
            case measure => simp [intOf]; omega
          · gi_wp2
            refine bodyPost_ret (results_none rfl _ _ _) rfl ?_
            exact ⟨⟨_, rfl⟩, .inr ⟨_, by rw [← upto_succ ls k hlj]; exact upto_prefix ls _ hlt, hJx3⟩⟩
        · obtain rfl : j = (ls k).length := by omega
          gi_wp2
          go_roundw
          case rel => exact ⟨k + 1, by omega, by simp, by rw [← upto_next]; exact hJ2, hn2⟩
          case measure => simp [intOf]; omega
    · obtain rfl : k = m := by omega
      gi_wp2
      go_end0
      exact ⟨⟨_, rfl⟩, .inl ⟨_, rfl, by rw [← upto_all]; exact hJs⟩⟩
set_option maxHeartbeats 1000000 in
theorem cells_in (F : Fence) (n : Nat) (h : F.fn 32) (hro : F.round = none) (a : Option Addr) (len cap : Nat) (w : World) :
    CallsIn F n Try.prog 32 #[.slice a len cap] w fun e w' => e = .returned (.func (.func 57) #[] #[.pointer (some ⟨w.heap.size, 0, none⟩)]) ∧ w' = w.alloc (.cells #[.slice a len cap] 29) := by
  refine callsIn_of_wp Try.func32 rfl h ?_ hro
  simp only [Try.ntmps32, List.size_toArray, List.length_cons, List.length_nil, Nat.reduceAdd, Nat.reduceSub, Array.replicate_succ, Array.replicate_zero, List.push_toArray, List.append_toArray, List.nil_append, List.cons_append]
  gi_wp2
  go_ret
  exact ⟨rfl, rfl⟩
theorem cells_stops (F : Fence) (n : Nat) (h57 : F.fn 57) (hro : F.round = none) (hn : 1 ≤ n) (Bs n₀ b off cap m : Nat) (a : Option Addr) (ha : 0 < m → a = some ⟨b, off, none⟩) (ls : Nat → List UInt8) (hL : m ≤ 1000000) (hS : ∀ i : Nat, (ls i).length ≤ 1000000) (hb : 0 < m → b < n₀) (w : World) (hBs : Bs < w.heap.size) (hn₀ : n₀ ≤ w.heap.size)
    (hB : w.cell? ⟨Bs, 0, none⟩ = some (.slice a m cap)) (hc : ∀ j, j < m → w.cell? ⟨b, off + j, none⟩ = some (.string ⟨(ls j).toArray⟩)) :
    SeqStopsK F n Try.prog 57 #[.pointer (some ⟨Bs, 0, none⟩)] enc (Below n₀) (fun ys => ys = all ls m) (fun pre => pre <+: all ls m) (all ls m).length w := fun l J Jx W hW _ _ hY h0 =>
  cells1_in F n h57 hro hn l Bs n₀ b off cap m a ha ls hL hS hb J Jx hY W ((hW.cell (p := ⟨Bs, 0, none⟩) hBs).trans hB) (fun j hj => (hW.cell (p := ⟨b, off + j, none⟩) (by have := hb (by omega); simp; omega)).trans (hc j hj)) h0
def noDefer (ops : Array Oper) : Bool := ops.all fun o => match o.op with | .defer _ => false | _ => true
theorem noDefer_at {ops : Array Oper} (h : noDefer ops = true) {i : Nat} {o : Oper} (ho : ops[i]? = some o) : ∀ c, o.op ≠ .defer c := by
  intro c hc
  obtain ⟨hi, he⟩ := Array.getElem?_eq_some_iff.1 ho
  have := Array.all_eq_true.1 h i hi
  rw [he, hc] at this
  cases this
theorem uponIn_inRound {F : Fence} {n : Nat} {P : Program} {o : Oper} {a : Act} {K : Act → World → Prop} {Q : Exit → Act → World → Prop} (l : Nat) (r : Result Next) (h : o.uponIn F n P a K Q r) : o.uponIn (F.inRound l) n P a K Q r := by
  cases r with
  | ok x w' => cases x <;> exact h
  | halt x w' => cases x <;> exact h
theorem wpIn_inRound {F : Fence} {n : Nat} {P : Program} {o : Oper} {a : Act} {w : World} {K : Act → World → Prop} {Q : Exit → Act → World → Prop} (l : Nat) (hd : ∀ c, o.op ≠ .defer c) (h : o.wpIn F n P a w K Q) : o.wpIn (F.inRound l) n P a w K Q := by
  unfold Oper.wpIn at h ⊢
  refine ⟨h.1, ?_⟩
  have h2 := h.2
  rw [Oper.semAt_eq _ _ _ hd] at h2 ⊢
  exact uponIn_inRound l _ h2
theorem wpAnyIn_inRound {F : Fence} {n : Nat} {P : Program} {ops : Array Oper} {md : Region.Mode} {Q : Exit → Act → World → Prop} (l : Nat) (hd : noDefer ops = true) :
    ∀ (fuel : Nat) (listed : Array Bool) (a : Act) (w : World), wpAnyIn F n P md ops Q fuel listed a w → wpAnyIn (F.inRound l) n P md ops Q fuel listed a w := by
  intro fuel
  induction fuel with
  | zero => exact fun _ _ _ h => h
  | succ fuel ih =>
    intro listed a w h
    refine ⟨h.1, fun i hi => ?_⟩
    have := h.2 i hi
    unfold wpOpIn at this ⊢
    split
    · rename_i e; rw [e] at this; exact ih _ _ _ this
    · rename_i o e
      rw [e] at this
      simp only at this
      split
      · rename_i hw
        rw [if_pos hw] at this
        exact Oper.wpIn_mono (fun a w h => ih _ _ _ h) (wpIn_inRound l (noDefer_at hd e) this)
      · rename_i hw
        rw [if_neg hw] at this
        exact ⟨this.1, ih _ _ _ this.2⟩
theorem wpIn_region_quiet_round {F : Fence} {n : Nat} {P : Program} {id r : Nat} {Q : Exit → Act → World → Prop} {a : Act} {w : World} {l : List Oper} (hro : F.round = none) (hm : P.follows .mixedOrders = true) (hB : Region.lexB .any l.toArray = true) (hd : noDefer l.toArray = true)
    (h : wpQuietIn F n P l.toArray (fun w' => ∃ n, w' = w.drewN n) (fun a' => ∀ w', (∃ n, w' = w.drewN n) → Q .normal a' w') l a) : (Code.region id l.toArray true).wpIn (F.inRound r) n P Q a w := by
  have hB' := hB
  simp only [Region.lexB, Bool.and_eq_true] at hB
  refine wpIn_region_any hm (wpAnyIn_inRound r hd _ _ _ _ (wpAnyIn_of_quiet (C := fun w' => ∃ n, w' = w.drewN n) (Q := fun a' => ∀ w', (∃ n, w' = w.drewN n) → Q .normal a' w') hro (fun _ w' hw' h => h w' hw') _ _ _ _ ⟨1, rfl⟩ ?_))
  have := wpAnyQIn_lex (F := F) (n := n) (C := fun w' => ∃ n, w' = w.drewN n) (md := .any) hB.1 l 0 (Array.replicate l.toArray.size false) a (by simp) (by simpa using hB.2) (by simpa using h)
  simpa using this
end CellsIt
end Go.Proofs.Ytefbgdnobnemkaa
