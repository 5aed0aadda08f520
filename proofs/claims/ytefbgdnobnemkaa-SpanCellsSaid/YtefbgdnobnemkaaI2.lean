/-
  The law of the cells of a text: its walk (two ranges over a function).
-/
import Derived.Test.YtefbgdnobnemkaaI1
import Derived.Test.YtefbgdnobnemkaaG2
namespace Go.Proofs.Ytefbgdnobnemkaa
open Go Go.RowKit Go.Shelf Go.Sort
attribute [local go_sem] Oper.semAt_some
namespace CellsIt

theorem run_equalIn_func (n : Nat) (W : World) (a : Option Addr) : Sem.run Try.prog (Op.equalIn (n + 1) 39 (Value.func (Fn.func 57) #[] #[Value.pointer a]) Value.nilFunc) W = .ok false W := by
  simp [Op.equalIn, run_underlying Try.underlying39]
theorem run_equal_func (W : World) (a : Option Addr) : Sem.run Try.prog (Op.equal 39 (Value.func (Fn.func 57) #[] #[Value.pointer a]) Value.nilFunc) W = .ok false W := run_equalIn_func 9999 W a
theorem run_equal_pos (W : World) (a b c d : Int) : Sem.run Try.prog (Op.equal 23 (.agg #[.int .i64 a, .int .i64 b]) (.agg #[.int .i64 c, .int .i64 d])) W = .ok (decide (a = c ∧ b = d)) W := (AM.eq2_ok 23 rfl).2 a b c d W
theorem run_bin_func (W : World) (a : Option Addr) : Sem.run Try.prog (binOp BinOp.eql 39 (Value.func (Fn.func 57) #[] #[Value.pointer a]) Value.nilFunc) W = .ok (.bool false) W := by
  simp [binOp, go_sem, run_equal_func]
theorem run_bin_pos (W : World) (a b c d : Int) : Sem.run Try.prog (binOp BinOp.neq 23 (.agg #[.int .i64 a, .int .i64 b]) (.agg #[.int .i64 c, .int .i64 d])) W = .ok (.bool (!decide (a = c ∧ b = d))) W := by
  simp [binOp, go_sem, run_equal_pos]
attribute [local go_sem] run_bin_func run_bin_pos
theorem bxUnder {W W' : World} {n B : Nat} {t : TypeId} {v : Value} (h : Boxed W B t v) (hb : Below n W W') (hlt : B < n) : Boxed W' B t v := (hb.block B hlt).trans h
set_option maxRecDepth 100000 in
set_option maxHeartbeats 8000000 in
theorem law_in (b off cap m : Nat) (kk : Int) (ls : Nat → List UInt8) (a : Option Addr) (ha : 0 < m → a = some ⟨b, off, none⟩) (hL : m ≤ 1000) (hS : ∀ i : Nat, (ls i).length ≤ 2000) (w : World) (hb : 0 < m → b < w.heap.size) (hc : ∀ j, j < m → w.cell? ⟨b, off + j, none⟩ = some (.string ⟨(ls j).toArray⟩)) (hk : 0 ≤ kk ∧ kk ≤ 255)
    (k22 : ∀ W, CallsIn Fence.wide 99 Try.prog 22 #[] W fun e W' => e = .returned (.bool true) ∧ Below W.heap.size W W')
    (k31 : ∀ W, Below w.heap.size w W → CallsIn Fence.wide 99 Try.prog 31 #[.slice a m cap] W fun e W' => e = .returned (.bool true) ∧ Below W.heap.size W W')
    (k33 : ∀ W, Below w.heap.size w W → CallsIn Fence.wide 99 Try.prog 33 #[.slice a m cap] W fun e W' => e = .returned (.int .i64 ((all ls m).length + m)) ∧ Below W.heap.size W W') :
    CallsIn Fence.wide 100 Try.prog 6 #[.slice a m cap, .int .u8 kk] w fun e W' => e = .returned (.bool true) ∧ Below w.heap.size w W' := by
  refine callsIn_of_wp_marks Try.func6 rfl trivial ?_ rfl
  simp only [Try.ntmps6, List.size_toArray, List.length_cons, List.length_nil, Nat.reduceAdd, Nat.reduceSub, Array.replicate_succ, Array.replicate_zero, List.push_toArray, List.append_toArray, List.nil_append, List.cons_append]
  have z2 := (Boxed.new w 29 (.slice a m cap)).alloc (.cells #[.bool false] 4)
  have z4 := Boxed.new (w.alloc (.cells #[.slice a m cap] 29)) 4 (.bool false)
  have y0 := ((Below.refl w.heap.size w).alloc (Nat.le_refl _) (.cells #[.slice a m cap] 29)).alloc (by simp) (.cells #[.bool false] 4)
  have y1 : ((w.alloc (.cells #[.slice a m cap] 29)).alloc (.cells #[.bool false] 4)).heap.size = w.heap.size + 2 := by simp
  rw [World.size_alloc] at z4
  gi_wp2_with (first
    | (refine ⟨trivial, ?_⟩; gi_at_call 22; refine (k22 _).mono ?_; rintro e w1 ⟨rfl, hb1⟩; have x2 := bxUnder z2 hb1 (by omega); have x4 := bxUnder z4 hb1 (by omega); have c2 := x2.cell; have hw1 := y0.trans (hb1.mono (by omega)); have s1 := hb1.size; clear hb1)
    | (refine ⟨trivial, ?_⟩; gi_at_call 31; refine (k31 _ hw1).mono ?_; rintro e w2 ⟨rfl, hb2⟩; have v2 := bxUnder x2 hb2 (by omega); have v4 := bxUnder x4 hb2 (by omega); have d2 := v2.cell; have hw2 := hw1.trans (hb2.mono (by omega)); have s2 := hb2.size; clear hb2)
    | (refine ⟨trivial, ?_⟩; gi_at_call 32; refine (cells_in _ _ trivial rfl _ _ _ _).mono ?_; rintro e w3 ⟨rfl, hw3⟩; subst hw3))
  have hmx : Try.prog.follows .mixedOrders = true := by kernel_rfl
  obtain ⟨S, hS2⟩ : ∃ S, w2.heap.size = S := ⟨_, rfl⟩
  have bI := (((Boxed.new w2 29 (.slice a m cap)).alloc (.cells #[.int .i64 0] 3)).alloc (.cells #[.int .i64 0] 3)).alloc (.cells #[.int .i64 0] 3)
  have b6 := ((Boxed.new (w2.alloc (.cells #[.slice a m cap] 29)) 3 (.int .i64 0)).alloc (.cells #[.int .i64 0] 3)).alloc (.cells #[.int .i64 0] 3)
  have b7 := (Boxed.new ((w2.alloc (.cells #[.slice a m cap] 29)).alloc (.cells #[.int .i64 0] 3)) 3 (.int .i64 0)).alloc (.cells #[.int .i64 0] 3)
  have b8 := Boxed.new (((w2.alloc (.cells #[.slice a m cap] 29)).alloc (.cells #[.int .i64 0] 3)).alloc (.cells #[.int .i64 0] 3)) 3 (.int .i64 0)
  have v2' := (((v2.alloc (.cells #[.slice a m cap] 29)).alloc (.cells #[.int .i64 0] 3)).alloc (.cells #[.int .i64 0] 3)).alloc (.cells #[.int .i64 0] 3)
  have v4' := (((v4.alloc (.cells #[.slice a m cap] 29)).alloc (.cells #[.int .i64 0] 3)).alloc (.cells #[.int .i64 0] 3)).alloc (.cells #[.int .i64 0] 3)
  simp only [World.size_alloc] at b6 b7 b8
  have hB0 : Below w.heap.size w ((((w2.alloc (.cells #[.slice a m cap] 29)).alloc (.cells #[.int .i64 0] 3)).alloc (.cells #[.int .i64 0] 3)).alloc (.cells #[.int .i64 0] 3)) := (((hw2.alloc (by omega) _).alloc (by simp; omega) _).alloc (by simp; omega) _).alloc (by simp; omega) _
  have hsz : ((((w2.alloc (.cells #[.slice a m cap] 29)).alloc (.cells #[.int .i64 0] 3)).alloc (.cells #[.int .i64 0] 3)).alloc (.cells #[.int .i64 0] 3)).heap.size = S + 4 := by simp; omega
  rw [hS2] at bI b6 b7 b8 ⊢
  obtain ⟨W0, hW0⟩ : ∃ W0, ((((w2.alloc (.cells #[.slice a m cap] 29)).alloc (.cells #[.int .i64 0] 3)).alloc (.cells #[.int .i64 0] 3)).alloc (.cells #[.int .i64 0] 3)) = W0 := ⟨_, rfl⟩
  rw [hW0] at bI b6 b7 b8 v2' v4' hB0 hsz ⊢
  have hSw : w.heap.size + 2 ≤ S := by omega
  clear hW0 v2 v4 hw2 d2 s2 hS2 x2 x4 c2 hw1 s1 z2 z4 y0 y1
  have hcb : ∀ W, Below w.heap.size w W → ∀ j, j < m → W.cell? ⟨b, off + j, none⟩ = some (.string ⟨(ls j).toArray⟩) := fun W h j hj => (h.cell (p := ⟨b, off + j, none⟩) (hb (by omega))).trans (hc j hj)
  refine wpIn_rangeFunc_ownH rfl (by omega) (gf := 57) (lb := #[.pointer (some ⟨S, 0, none⟩)]) rfl trivial (enters_of Try.func57 (by kernel_rfl) rfl)
    (cells_stops Fence.wide _ trivial rfl (by omega) S w.heap.size b off cap m a ha ls (by omega) (fun i => by have := hS i; omega) hb W0 (by omega) (by omega) bI.cell (hcb W0 hB0)) belowK_t (belowK_b (by omega)) (Below.refl _ _) (fun _ => rfl)
    (fun pre W => ((∃ i j : Nat, pre = upto ls i j ∧ i ≤ m ∧ (i < m → j ≤ (ls i).length) ∧ (i = m → j = 0) ∧ Boxed W (S + 1) 3 (.int .i64 i) ∧ Boxed W (S + 1 + 1) 3 (.int .i64 j) ∧ Boxed W (S + 1 + 1 + 1) 3 (.int .i64 pre.length)) ∧ Boxed W w.heap.size 29 (.slice a m cap) ∧ Boxed W S 29 (.slice a m cap) ∧ Boxed W (w.heap.size + 1) 4 (.bool false)) ∧ Below w.heap.size w W)
    (fun c pre W => c = .ret ∧ ¬ pre <+: all ls m)
    ?hI (fun c => ownFrom_pure _ (fun pre => c = .ret ∧ ¬ pre <+: all ls m))
    ⟨⟨⟨0, 0, by simp [upto], by omega, fun _ => by omega, fun _ => rfl, b6, b7, b8⟩, v2', bI, v4'⟩, hB0⟩
    (fun x a' W => ∃ Bx, S + 3 < Bx ∧ W.heap[Bx]? = some (.cells #[.int .i64 (x.1.1 : Int), .int .i64 (x.1.2 : Int)] 23 (0, 0)) ∧ a' = { tmps := #[.slice a m cap, .int .u8 kk, .pointer (some ⟨w.heap.size, 0, none⟩), undef, .pointer (some ⟨w.heap.size + 1, 0, none⟩), .func (.func 57) #[] #[.pointer (some ⟨S, 0, none⟩)], .pointer (some ⟨S + 1, 0, none⟩), .pointer (some ⟨S + 1 + 1, 0, none⟩), .pointer (some ⟨S + 1 + 1 + 1, 0, none⟩), .pointer (some ⟨Bx, 0, none⟩), .int .u8 (x.2.toNat : Int), undef, undef, .bool true, .bool false, .slice a m cap, .bool true, .bool false, .slice a m cap, .func (.func 57) #[] #[.pointer (some ⟨S, 0, none⟩)], .func (.func 57) #[] #[.pointer (some ⟨S, 0, none⟩)], .bool false, .func (.func 57) #[] #[.pointer (some ⟨S, 0, none⟩)], .agg #[.int .i64 (x.1.1 : Int), .int .i64 (x.1.2 : Int)], .int .u8 (x.2.toNat : Int), undef, undef, undef, undef, undef, undef, undef, undef, undef, undef, undef, undef, undef, undef, undef, undef, undef, undef, undef, undef, undef, undef, undef, undef, undef, undef, undef, undef, undef, undef, undef, undef, undef, undef, undef, undef, undef, undef, undef, undef, undef, undef, undef, undef, undef, undef, undef, undef, undef, undef, undef, undef, undef, undef, undef, undef, undef, undef, undef, undef, undef, undef, undef, undef], defers := [] })
    ?hAx ?assign ?body ?done ?stop
  case hI =>
    intro s X Y row hs hg hr
    obtain ⟨⟨⟨i, j, e, h1, h2, h3, q6, q7, q8⟩, qL, qI, qR⟩, hB⟩ := hs
    have K : ∀ (B : Nat) (t : TypeId) (v : Value), Boxed X B t v → Boxed Y B t v := fun B t v h => boxed_own B t (fun (_ : Unit) => v) () X Y row h hg (fun r e => (hr r e).2)
    exact ⟨⟨⟨i, j, e, h1, h2, h3, K _ _ _ q6, K _ _ _ q7, K _ _ _ q8⟩, K _ _ _ qL, K _ _ _ qI, K _ _ _ qR⟩, ownFrom_below (β := Unit) (Nat.le_refl _) (by omega) () X Y row hB hg hr⟩
  case hAx =>
    intro x a' _ X Y row hs hg hr
    obtain ⟨Bx, h1, h2, h3⟩ := hs
    refine ⟨Bx, h1, (hg.block Bx (Array.getElem?_eq_some_iff.1 h2).1 (fun e => ?_)).trans h2, h3⟩
    obtain ⟨o, ho, hc⟩ := (hr Bx e.symm).2
    rw [h2] at ho; cases ho; cases hc
  case assign =>
    rintro l pre x W K hi hK
    dsimp only [enc]
    obtain ⟨⟨⟨i, j, e, h1, h2, h3, q6, q7, q8⟩, qL, qI, qR⟩, hB⟩ := hi
    gi_wp2
    exact hK _ _ ((KeepsOthers.alloc _ _).from _) ((Below.refl _ W).alloc hB.size _) ⟨⟨⟨i, j, e, h1, h2, h3, q6.alloc _, q7.alloc _, q8.alloc _⟩, qL.alloc _, qI.alloc _, qR.alloc _⟩, hB.alloc hB.size _⟩ ⟨W.heap.size, q8.lt, World.alloc_heap_new W _, rfl⟩
  case body =>
    rintro l pre x a' W hl ⟨r, hr⟩ ⟨⟨⟨i0, j0, rfl, hi, hj, hj', q6, q7, q8⟩, qL, qI, qR⟩, hB⟩ ⟨Bx, hBx, bX, rfl⟩ hlt
    gi_wp2
    gi_loopw [] (fun wr => ∃ i j : Nat, upto ls i0 j0 = upto ls i j ∧ i ≤ m ∧ (i < m → j ≤ (ls i).length) ∧ (i = m → j = 0) ∧ Boxed wr (S + 1) 3 (.int .i64 i) ∧ Boxed wr (S + 1 + 1) 3 (.int .i64 j) ∧ Boxed wr (S + 1 + 1 + 1) 3 (.int .i64 (upto ls i0 j0).length) ∧ Boxed wr w.heap.size 29 (.slice a m cap) ∧ Boxed wr S 29 (.slice a m cap) ∧ Boxed wr (w.heap.size + 1) 4 (.bool false) ∧ wr.heap[Bx]? = some (.cells #[.int .i64 (x.1.1 : Int), .int .i64 (x.1.2 : Int)] 23 (0, 0)) ∧ Below w.heap.size W wr ∧ KeepsFrom W0.heap.size W wr)
      (fun wr => m - (intOf ((wr.cell? ⟨S + 1, 0, none⟩).getD undef)).toNat)
    case atStart => exact ⟨i0, j0, rfl, hi, hj, hj', q6, q7, q8, qL, qI, qR, bX, Below.refl _ _, KeepsFrom.refl _ _⟩
    case round =>
      clear q6 q7 q8 qL qI qR bX
      obtain ⟨i, j, hp, hi1, hj1, hj2, q6, q7, q8, qL, qI, qR, bX, hW, hKF⟩ := hrel
      have hB' := hB.trans hW
      have c6 := q6.cell
      have c7 := q7.cell
      have f6 := q6.frozen
      have f7 := q7.frozen
      have f8 := q8.frozen
      have fR := qR.frozen
      have c8 := q8.cell
      have cL := qL.cell
      have cR := qR.cell
      have cx0 : wr.cell? ⟨Bx, 0, none⟩ = some (.int .i64 (x.1.1 : Int)) := by simp [World.cell?, bX]
      have cx1 : wr.cell? ⟨Bx, 1, none⟩ = some (.int .i64 (x.1.2 : Int)) := by simp [World.cell?, bX]
      by_cases him : i = m
      · exfalso
        rw [hp, him, hj2 him, upto_all] at hlt
        omega
      · have hi2 : i < m := by omega
        obtain rfl := ha (by omega)
        have hcl := hcb wr hB' i hi2
        have hSi := hS i
        by_cases hjl : j = (ls i).length
        · subst hjl
          have g1 : decide ((i : Int) < (m : Int)) = true := decide_eq_true (by omega)
          have g2 : decide (((ls i).length : Int) ≤ ((ls i).length : Int)) = true := decide_eq_true (by omega)
          gi_wp2
          refine wpIn_region_quiet_round rfl hmx (by kernel_rfl) (by kernel_rfl) ?_
          repeat (gi_big_quiet_step (fail))
          refine wpQuietIn_nil ?_
          rintro _ ⟨nq, rfl⟩
          gi_wp2
          have T6 : Boxed (wr.drewN nq) (S + 1) 3 (.int .i64 i) := q6
          have T7 : Boxed (wr.drewN nq) (S + 1 + 1) 3 (.int .i64 (ls i).length) := q7
          have T8 : Boxed (wr.drewN nq) (S + 1 + 1 + 1) 3 (.int .i64 (upto ls i0 j0).length) := q8
          have TL : Boxed (wr.drewN nq) w.heap.size 29 (.slice (some ⟨b, off, none⟩) m cap) := qL
          have TR : Boxed (wr.drewN nq) (w.heap.size + 1) 4 (.bool false) := qR
          have TI : Boxed (wr.drewN nq) S 29 (.slice (some ⟨b, off, none⟩) m cap) := qI
          have TX : (wr.drewN nq).heap[Bx]? = some (.cells #[.int .i64 (x.1.1 : Int), .int .i64 (x.1.2 : Int)] 23 (0, 0)) := bX
          have TW : Below w.heap.size W (wr.drewN nq) := ⟨hW.os, hW.tape, hW.output, hW.size, hW.block⟩
          have TK : KeepsFrom W0.heap.size W (wr.drewN nq) := ⟨hKF.size, hKF.same⟩
          generalize wr.drewN nq = W1 at *
          refine ⟨⟨i + 1, 0, by rw [hp, upto_next], by omega, fun _ => by omega, fun _ => rfl, ?_, (T7.other (by omega) _).set _, (T8.other (by omega) _).other (by omega) _, (TL.other (by omega) _).other (by omega) _, (TI.other (by omega) _).other (by omega) _, (TR.other (by omega) _).other (by omega) _,
            (Below.heap_setCell _ _ _ Bx (by simp; omega)).trans ((Below.heap_setCell _ _ _ Bx (by simp; omega)).trans TX), (TW.setCell (p := ⟨S + 1, 0, none⟩) (by simp; omega) _).setCell (p := ⟨S + 1 + 1, 0, none⟩) (by simp; omega) _,
            (TK.trans ((KeepsOthers.setCell _ _ _).from _)).trans ((KeepsOthers.setCell _ _ _).from _)⟩, ?_⟩
          · rw [show ((i + 1 : Nat) : Int) = (i : Int) + 1 by omega]
            exact (T6.set _).other (by omega) _
          · have e1 := ((T6.set (.int .i64 ((i : Int) + 1))).other (B' := S + 1 + 1) (by omega) (.int .i64 0)).cell
            rw [e1, c6]
            simp [intOf]; omega
        · have hj3 : j < (ls i).length := by have := hj1 hi2; omega
          have g1 : decide ((i : Int) < (m : Int)) = true := decide_eq_true (by omega)
          have g2 : decide (((ls i).length : Int) ≤ (j : Int)) = false := decide_eq_false (by omega)
          have hz : j < (ByteArray.mk (ls i).toArray).size := by simpa [ByteArray.size] using hj3
          have ez : (ls i)[j]?.getD 0 = (ByteArray.mk (ls i).toArray)[j]'hz := by
            show _ = (ls i).toArray[j]'_
            simp [hj3]
          have hNb : (upto ls i j).length < 3000000 := by have := all_len ls hS m; rw [← hp]; omega
          have g3 : decide (m ≤ i) = false := decide_eq_false (by omega)
          gi_wp2
          refine wpIn_region_quiet_round rfl hmx (by kernel_rfl) (by kernel_rfl) ?_
          repeat (gi_big_quiet_step (fail))
          refine wpQuietIn_nil ?_
          rintro _ ⟨nq, rfl⟩
          gi_wp2
          by_cases hx1 : x.1.1 = i
          · have hx1' : (x.1.1 : Int) = (i : Int) := by omega
            by_cases hx2 : x.1.2 = j
            · have hx2' : (x.1.2 : Int) = (j : Int) := by omega
              refine wpIn_region_quiet_round rfl hmx (by kernel_rfl) (by kernel_rfl) ?_
              repeat (gi_big_quiet_step (first | (rw [if_pos hx1', if_pos hx2']; exact ⟨rfl, rfl⟩) | (rw [if_pos hx1', if_neg hx2']; exact ⟨rfl, rfl⟩) | (rw [if_neg hx1']; exact ⟨rfl, rfl⟩)))
              refine wpQuietIn_nil ?_
              rintro _ ⟨nq2, rfl⟩
              gi_wp2
              all_goals
                have T6 : Boxed (wr.drewN (nq + nq2)) (S + 1) 3 (.int .i64 i) := q6
                have T7 : Boxed (wr.drewN (nq + nq2)) (S + 1 + 1) 3 (.int .i64 j) := q7
                have T8 : Boxed (wr.drewN (nq + nq2)) (S + 1 + 1 + 1) 3 (.int .i64 (upto ls i0 j0).length) := q8
                have TL : Boxed (wr.drewN (nq + nq2)) w.heap.size 29 (.slice (some ⟨b, off, none⟩) m cap) := qL
                have TR : Boxed (wr.drewN (nq + nq2)) (w.heap.size + 1) 4 (.bool false) := qR
                have TI : Boxed (wr.drewN (nq + nq2)) S 29 (.slice (some ⟨b, off, none⟩) m cap) := qI
                have TW : Below w.heap.size W (wr.drewN (nq + nq2)) := ⟨hW.os, hW.tape, hW.output, hW.size, hW.block⟩
                have TK : KeepsFrom W0.heap.size W (wr.drewN (nq + nq2)) := ⟨hKF.size, hKF.same⟩
                generalize wr.drewN (nq + nq2) = W1 at *
              · rename_i hbx
                exact ⟨TK.trans ((KeepsOthers.setCell _ _ _).from _), rfl, fun h => by
                  rw [hp] at h
                  have e := next_eq ls hi2 hj3 h
                  have e2 : x.2 = (ByteArray.mk (ls i).toArray)[j]'hz := by rw [← ez, e]
                  rw [e2] at hbx
                  simp at hbx⟩
              · rename_i hbx
                have hby : x.2 = (ls i)[j]?.getD 0 := by
                  rw [ez]
                  exact UInt8.toNat_inj.1 (Int.ofNat_inj.1 (by simpa using hbx))
                have hxe : x = ((i, j), (ls i)[j]?.getD 0) := Prod.ext (Prod.ext hx1 hx2) hby
                have hpre : upto ls i0 j0 ++ [x] = upto ls i (j + 1) := by rw [hp, hxe, upto_succ ls i hj3]
                refine ⟨(TK.trans ((KeepsOthers.setCell _ _ _).from _)).trans ((KeepsOthers.setCell _ _ _).from _), (TW.setCell (p := ⟨S + 1 + 1, 0, none⟩) (by simp; omega) _).setCell (p := ⟨S + 1 + 1 + 1, 0, none⟩) (by simp; omega) _, ⟨⟨⟨i, j + 1, hpre, by omega, fun _ => by omega, fun h => by omega, (T6.other (by omega) _).other (by omega) _, ?_, ?_⟩, (TL.other (by omega) _).other (by omega) _, (TI.other (by omega) _).other (by omega) _, (TR.other (by omega) _).other (by omega) _⟩, hB.trans ((TW.setCell (p := ⟨S + 1 + 1, 0, none⟩) (by simp; omega) _).setCell (p := ⟨S + 1 + 1 + 1, 0, none⟩) (by simp; omega) _)⟩⟩
                · rw [show ((j + 1 : Nat) : Int) = (j : Int) + 1 by omega]
                  exact (T7.set _).other (by omega) _
                · rw [List.length_append, hp, List.length_singleton, show (((upto ls i j).length + 1 : Nat) : Int) = ((upto ls i j).length : Int) + 1 by omega]
                  exact (T8.other (by omega) _).set _
            · have hx2' : ¬ (x.1.2 : Int) = (j : Int) := by omega
              refine wpIn_region_quiet_round rfl hmx (by kernel_rfl) (by kernel_rfl) ?_
              repeat (gi_big_quiet_step (first | (rw [if_pos hx1', if_pos hx2']; exact ⟨rfl, rfl⟩) | (rw [if_pos hx1', if_neg hx2']; exact ⟨rfl, rfl⟩) | (rw [if_neg hx1']; exact ⟨rfl, rfl⟩)))
              refine wpQuietIn_nil ?_
              rintro _ ⟨nq2, rfl⟩
              gi_wp2
              have TK : KeepsFrom W0.heap.size W (wr.drewN (nq + nq2)) := ⟨hKF.size, hKF.same⟩
              exact ⟨TK.trans ((KeepsOthers.setCell _ _ _).from _), rfl, fun h => by rw [hp] at h; have e := next_eq ls hi2 hj3 h; rw [e] at hx2; exact hx2 rfl⟩
          · have hx1' : ¬ (x.1.1 : Int) = (i : Int) := by omega
            refine wpIn_region_quiet_round rfl hmx (by kernel_rfl) (by kernel_rfl) ?_
            repeat (gi_big_quiet_step (first | (rw [if_pos hx1', if_pos hx2']; exact ⟨rfl, rfl⟩) | (rw [if_pos hx1', if_neg hx2']; exact ⟨rfl, rfl⟩) | (rw [if_neg hx1']; exact ⟨rfl, rfl⟩)))
            refine wpQuietIn_nil ?_
            rintro _ ⟨nq2, rfl⟩
            gi_wp2
            have TK : KeepsFrom W0.heap.size W (wr.drewN (nq + nq2)) := ⟨hKF.size, hKF.same⟩
            exact ⟨TK.trans ((KeepsOthers.setCell _ _ _).from _), rfl, fun h => by rw [hp] at h; have e := next_eq ls hi2 hj3 h; rw [e] at hx1; exact hx1 rfl⟩
  case stop =>
    rintro D c pre W hD hSp ⟨rfl, hnp⟩ hK
    exact absurd hSp hnp
  case done =>
    rintro D ys W hD rfl ⟨⟨⟨i, j, e, hi, hj, hj', q6, q7, q8⟩, qL, qI, qR⟩, hB⟩ hK
    have c8 := q8.cell
    have cL := qL.cell
    have hDlt : D < W.heap.size := (Array.getElem?_eq_some_iff.1 hK).1
    have hNb := all_len ls hS m
    have hNpre : ∀ pre : List ((Nat × Nat) × UInt8), pre <+: all ls m → pre.length ≤ (all ls m).length := fun pre h => h.length_le
    clear e hi hj hj' q6 q7
    have k33' := k33
    have hIt : ∀ W1, Below w.heap.size w W1 → Boxed W1 S 29 (.slice a m cap) → S < W1.heap.size → SeqStopsK Fence.wide 99 Try.prog 57 #[.pointer (some ⟨S, 0, none⟩)] enc (Below w.heap.size) (fun ys => ys = all ls m) (fun pre => pre <+: all ls m) (all ls m).length W1 := fun W1 h1 h2 h3 =>
      cells_stops Fence.wide 99 trivial rfl (by omega) S w.heap.size b off cap m a ha ls (by omega) (fun i => by have := hS i; omega) hb W1 h3 (by omega) h2.cell (fun j hj => (h1.cell (p := ⟨b, off + j, none⟩) (hb (by omega))).trans (hc j hj))
    have hNN : ∀ ys : List ((Nat × Nat) × UInt8), ys = all ls m → ys.length = (all ls m).length := fun ys h => by rw [h]
    obtain ⟨N, hN⟩ : ∃ N, (all ls m).length = N := ⟨_, rfl⟩
    rw [hN] at q8 hNb hNpre k33' hIt hNN
    have c8 := q8.cell
    have h5 : m * 2000 ≤ 2000000 := by omega
    have hwr : IntKind.i64.wrap (N : Int) = N := AM.wrap_inK ⟨by omega, by omega⟩
    clear k33 k31 k22
    have k8 := cell_regrown c8
    have kL := cell_regrown cL
    have cC : ∀ d os, CallsIn Fence.wide 99 Try.prog 33 #[.slice a m cap] (grow (redrawn W d) os) fun e w'' => e = .returned (.int .i64 (N + m)) ∧ ∃ p : Regrown, w'' = grow (redrawn W p.d) p.os := fun d os => CallsIn.regrown_of (k33' _ (hB.trans ((below_regrown W d os).mono hB.size)))
    have cR := cell_regrown qR.cell
    gi_wp2
    refine wpIn_region_quiet_below rfl hmx (by kernel_rfl) ?_
    repeat (
      refine wpQuietIn_step (fun _ _ _ _ => trivial) (fun K hK => ?_)
      go_simp
      first
        | (refine hK _ ?_; clear hK K)
        | (apply Exists.intro
           refine ⟨fun _ => ?_, hK _ ?_⟩
           (first | exact ⟨fun _ => by omega, cC _ _⟩ | exact cC _ _ | exact ⟨trivial, cC _ _⟩ | exact ⟨trivial, fun _ => by omega, cC _ _⟩)
           clear hK K))
    refine wpQuietIn_nil ?_
    intro _ hw'
    obtain ⟨⟨dq, osq⟩, hw''⟩ := hw'
    subst hw''
    gi_wp2
    have hGsz : (grow (redrawn W dq) osq).heap.size = (redrawn W dq).heap.size + osq.size := by simp [grow]
    have hG : Below W.heap.size W (grow (redrawn W dq) osq) := below_regrown W dq osq
    generalize (redrawn W dq).heap.size + osq.size = GS at *
    generalize grow (redrawn W dq) osq = G at *
    obtain ⟨r, hr⟩ : ∃ r, kk % 30 = r := ⟨_, rfl⟩
    have hr0 : 0 ≤ r ∧ r < 30 := by omega
    rw [hr]
    have hBG : Below w.heap.size w G := hB.trans (hG.mono hB.size)
    have sG := hG.size
    have lt8 := q8.lt
    have r8 := ((bxUnder q8 hG q8.lt).alloc (.cells #[.int .i64 0] 3)).alloc (.cells #[.int .i64 (r + 1)] 3)
    have rI := ((bxUnder qI hG qI.lt).alloc (.cells #[.int .i64 0] 3)).alloc (.cells #[.int .i64 (r + 1)] 3)
    have rR := ((bxUnder qR hG qR.lt).alloc (.cells #[.int .i64 0] 3)).alloc (.cells #[.int .i64 (r + 1)] 3)
    have r11 := (Boxed.new G 3 (.int .i64 0)).alloc (.cells #[.int .i64 (r + 1)] 3)
    have r12 := Boxed.new (G.alloc (.cells #[.int .i64 0] 3)) 3 (.int .i64 (r + 1))
    rw [World.size_alloc] at r12
    have rK : ((G.alloc (.cells #[.int .i64 0] 3)).alloc (.cells #[.int .i64 (r + 1)] 3)).heap[D]? = some (.deferred (some [])) := (Below.heap_alloc _ _ _ (by simp; omega)).trans ((Below.heap_alloc _ _ _ (by omega)).trans ((hG.block D hDlt).trans hK))
    have hB2 : Below w.heap.size w ((G.alloc (.cells #[.int .i64 0] 3)).alloc (.cells #[.int .i64 (r + 1)] 3)) := (hBG.alloc hBG.size _).alloc (by simp; have := hBG.size; omega) _
    have sz2 : ((G.alloc (.cells #[.int .i64 0] 3)).alloc (.cells #[.int .i64 (r + 1)] 3)).heap.size = GS + 2 := by simp; omega
    have hBsz := hBG.size
    rw [hGsz] at r11 r12 hBsz sG
    generalize (G.alloc (.cells #[.int .i64 0] 3)).alloc (.cells #[.int .i64 (r + 1)] 3) = W2 at *
    clear cC k8 kL cR hG hBG hK hB q8 qI qL qR cL c8
    refine wpIn_rangeFunc_ownH rfl (by omega) (gf := 57) (lb := #[.pointer (some ⟨S, 0, none⟩)]) rfl trivial (enters_of Try.func57 (by kernel_rfl) rfl)
      (hIt W2 hB2 rI (by omega)) belowK_t (belowK_b (by omega)) (Below.refl _ _) (fun _ => rfl)
      (fun pre W => ((pre.length : Int) < r + 1 ∧ Boxed W GS 3 (.int .i64 pre.length) ∧ Boxed W (GS + 1) 3 (.int .i64 (r + 1)) ∧ Boxed W (S + 1 + 1 + 1) 3 (.int .i64 N) ∧ Boxed W (w.heap.size + 1) 4 (.bool false)) ∧ W.heap[D]? = some (.deferred (some [])) ∧ Below w.heap.size w W)
      (fun c pre W => (c = .exit 4 ∧ (pre.length : Int) = r + 1 ∧ Boxed W GS 3 (.int .i64 pre.length) ∧ Boxed W (GS + 1) 3 (.int .i64 (r + 1)) ∧ Boxed W (S + 1 + 1 + 1) 3 (.int .i64 N) ∧ Boxed W (w.heap.size + 1) 4 (.bool false)) ∧ W.heap[D]? = some (.deferred (some [])) ∧ Below w.heap.size w W)
      ?hI2 ?hIx2
      ⟨⟨by simp; omega, r11, r12, r8, rR⟩, rK, hB2⟩
      (fun x a' _ => a' = { tmps := #[.slice a m cap, .int .u8 kk, .pointer (some ⟨w.heap.size, 0, none⟩), undef, .pointer (some ⟨w.heap.size + 1, 0, none⟩), .func (.func 57) #[] #[.pointer (some ⟨S, 0, none⟩)], .pointer (some ⟨S + 1, 0, none⟩), .pointer (some ⟨S + 1 + 1, 0, none⟩), .pointer (some ⟨S + 1 + 1 + 1, 0, none⟩), undef, undef, .pointer (some ⟨GS, 0, none⟩), .pointer (some ⟨GS + 1, 0, none⟩), .bool true, .bool false, .slice a m cap, .bool true, .bool false, .slice a m cap, .func (.func 57) #[] #[.pointer (some ⟨S, 0, none⟩)], .func (.func 57) #[] #[.pointer (some ⟨S, 0, none⟩)], .bool false, .func (.func 57) #[] #[.pointer (some ⟨S, 0, none⟩)], undef, undef, undef, undef, undef, undef, undef, undef, undef, undef, undef, undef, undef, undef, undef, undef, undef, undef, undef, undef, undef, undef, undef, undef, undef, undef, undef, undef, undef, undef, undef, undef, undef, undef, undef, undef, undef, undef, undef, undef, undef, undef, .int .i64 (N : Int), .slice a m cap, .int .i64 ((N : Int) + (m : Int)), .slice a m cap, .int .i64 (m : Int), .int .i64 (N : Int), .bool false, .int .u8 kk, .int .u8 r, .int .i64 r, .int .i64 (r + 1), .func (.func 57) #[] #[.pointer (some ⟨S, 0, none⟩)], .agg #[.int .i64 (x.1.1 : Int), .int .i64 (x.1.2 : Int)], .int .u8 (x.2.toNat : Int), undef, undef, undef, undef, undef, undef, undef, undef, undef, undef], defers := [] })
      (fun _ _ _ _ _ _ hs _ _ => hs)
      ?assign2 ?body2 ?done2 ?stop2
    case hI2 =>
      intro s X Y row hs hg hr'
      obtain ⟨⟨h1, p11, p12, p8, pR⟩, pK, pB⟩ := hs
      have K : ∀ (B : Nat) (t : TypeId) (v : Value), Boxed X B t v → Boxed Y B t v := fun B t v h => boxed_own B t (fun (_ : Unit) => v) () X Y row h hg (fun r e => (hr' r e).2)
      exact ⟨⟨h1, K _ _ _ p11, K _ _ _ p12, K _ _ _ p8, K _ _ _ pR⟩, (hg.block D (Array.getElem?_eq_some_iff.1 pK).1 (fun e => by have := (hr' D e.symm).1; omega)).trans pK, ownFrom_below (β := Unit) (Nat.le_refl _) (by omega) () X Y row pB hg hr'⟩
    case hIx2 =>
      intro c s X Y row hs hg hr'
      obtain ⟨⟨h0, h1, p11, p12, p8, pR⟩, pK, pB⟩ := hs
      have K : ∀ (B : Nat) (t : TypeId) (v : Value), Boxed X B t v → Boxed Y B t v := fun B t v h => boxed_own B t (fun (_ : Unit) => v) () X Y row h hg (fun r e => (hr' r e).2)
      exact ⟨⟨h0, h1, K _ _ _ p11, K _ _ _ p12, K _ _ _ p8, K _ _ _ pR⟩, (hg.block D (Array.getElem?_eq_some_iff.1 pK).1 (fun e => by have := (hr' D e.symm).1; omega)).trans pK, ownFrom_below (β := Unit) (Nat.le_refl _) (by omega) () X Y row pB hg hr'⟩
    case assign2 =>
      rintro l pre x W' K hi hK'
      dsimp only [enc]
      gi_wp2
      exact hK' _ _ (KeepsFrom.refl _ _) (Below.refl _ _) hi rfl
    case body2 =>
      rintro l pre x a' W' hl ⟨rr, hrr⟩ ⟨⟨h1, p11, p12, p8, pR⟩, pK, pB⟩ rfl hlt
      have d11 := p11.cell
      have d12 := p12.cell
      have e11 := p11.frozen
      have hp30 : (pre.length : Int) < 31 := by omega
      gi_wp2
      all_goals
        have hl' : (((pre ++ [x]).length : Nat) : Int) = (pre.length : Int) + 1 := by simp
        have u11 := p11.set (.int .i64 ((pre.length : Int) + 1))
        have u12 := p12.other (B' := GS) (by omega) (.int .i64 ((pre.length : Int) + 1))
        have u8 := p8.other (B' := GS) (by omega) (.int .i64 ((pre.length : Int) + 1))
        have uR := pR.other (B' := GS) (by omega) (.int .i64 ((pre.length : Int) + 1))
        have uK := (Below.heap_setCell W' ⟨GS, 0, none⟩ (.int .i64 ((pre.length : Int) + 1)) D (by simp; omega)).trans pK
        have uB := pB.setCell (p := ⟨GS, 0, none⟩) (by simp; omega) (.int .i64 ((pre.length : Int) + 1))
        have uF := (KeepsOthers.setCell W' ⟨GS, 0, none⟩ (.int .i64 ((pre.length : Int) + 1))).from W2.heap.size
        rw [← hl'] at u11
      · exact ⟨uF, ⟨rfl, by omega, by rw [← hl'] at *; exact u11, by rw [← hl'] at *; exact u12, by rw [← hl'] at *; exact u8, by rw [← hl'] at *; exact uR⟩, by rw [← hl'] at *; exact uK, by rw [← hl'] at *; exact uB⟩
      · exact ⟨uF, (Below.refl w.heap.size W').setCell (p := ⟨GS, 0, none⟩) (by simp; omega) _, ⟨by omega, by rw [← hl'] at *; exact u11, by rw [← hl'] at *; exact u12, by rw [← hl'] at *; exact u8, by rw [← hl'] at *; exact uR⟩, by rw [← hl'] at *; exact uK, by rw [← hl'] at *; exact uB⟩
    case done2 =>
      rintro D2 ys W' hD2 hys ⟨⟨h1, p11, p12, p8, pR⟩, pK, pB⟩ hK2
      have d11 := p11.cell
      have d12 := p12.cell
      have d8 := p8.cell
      have eR := pR.frozen
      have hyl := hNN ys hys
      have dR := pR.cell
      gi_wp2
      have c0 : (W'.setCell ⟨w.heap.size + 1, 0, none⟩ (.bool true)).cell? ⟨w.heap.size + 1, 0, none⟩ = some (.bool true) := World.cell?_setCell_same' _ _ _ (by rw [dR]; rfl)
      have t2 : (W'.setCell ⟨w.heap.size + 1, 0, none⟩ (.bool true)).heap[D2]? = some (.deferred (some [])) := (Below.heap_setCell _ _ _ D2 (by simp; omega)).trans hK2
      have t1 : ((W'.setCell ⟨w.heap.size + 1, 0, none⟩ (.bool true)).putObj D2 (.deferred none)).heap[D]? = some (.deferred (some [])) := (World.putObj_heap_other (by omega)).trans ((Below.heap_setCell _ _ _ D (by simp; omega)).trans pK)
      have c1 := cell_kept c0 (grownBy_putObj' _ D2 (.deferred none)) (fun r e => by cases e; exact ⟨_, t2, rfl⟩)
      have c2 := cell_kept c1 (grownBy_putObj' _ D (.deferred none)) (fun r e => by cases e; exact ⟨_, t1, rfl⟩)
      refine ⟨by simp, .inl ⟨_, _, rfl, run_takeDeferred t2, by simp, .inl ⟨_, _, rfl, run_takeDeferred t1, ?_⟩⟩⟩
      refine ⟨.bool true, ?_, rfl, ((pB.setCell (p := ⟨w.heap.size + 1, 0, none⟩) (by simp) _).trans (belowK_b (w := w) (Nat.le_refl _) _ D2 _ _ (by omega) t2 rfl rfl)).trans (belowK_b (w := w) (Nat.le_refl _) _ D _ _ (by omega) t1 rfl rfl)⟩
      simp [results, Try.f6, go_sem, c2]
    case stop2 =>
      rintro D2 c pre W' hD2 hSp ⟨⟨rfl, h1, p11, p12, p8, pR⟩, pK, pB⟩ hK2
      have d11 := p11.cell
      have d12 := p12.cell
      have d8 := p8.cell
      have eR := pR.frozen
      have dR := pR.cell
      have hyl := hNpre pre hSp
      gi_wp2
      have c0 : (W'.setCell ⟨w.heap.size + 1, 0, none⟩ (.bool true)).cell? ⟨w.heap.size + 1, 0, none⟩ = some (.bool true) := World.cell?_setCell_same' _ _ _ (by rw [dR]; rfl)
      have t2 : (W'.setCell ⟨w.heap.size + 1, 0, none⟩ (.bool true)).heap[D2]? = some (.deferred (some [])) := (Below.heap_setCell _ _ _ D2 (by simp; omega)).trans hK2
      have t1 : ((W'.setCell ⟨w.heap.size + 1, 0, none⟩ (.bool true)).putObj D2 (.deferred none)).heap[D]? = some (.deferred (some [])) := (World.putObj_heap_other (by omega)).trans ((Below.heap_setCell _ _ _ D (by simp; omega)).trans pK)
      have c1 := cell_kept c0 (grownBy_putObj' _ D2 (.deferred none)) (fun r e => by cases e; exact ⟨_, t2, rfl⟩)
      have c2 := cell_kept c1 (grownBy_putObj' _ D (.deferred none)) (fun r e => by cases e; exact ⟨_, t1, rfl⟩)
      refine ⟨by simp, .inl ⟨_, _, rfl, run_takeDeferred t2, by simp, .inl ⟨_, _, rfl, run_takeDeferred t1, ?_⟩⟩⟩
      refine ⟨.bool true, ?_, rfl, ((pB.setCell (p := ⟨w.heap.size + 1, 0, none⟩) (by simp) _).trans (belowK_b (w := w) (Nat.le_refl _) _ D2 _ _ (by omega) t2 rfl rfl)).trans (belowK_b (w := w) (Nat.le_refl _) _ D _ _ (by omega) t1 rfl rfl)⟩
      simp [results, Try.f6, go_sem, c2]
end CellsIt
end Go.Proofs.Ytefbgdnobnemkaa
