/-
  Each operation of the model does what the abstract machine says: comparisons, addresses, parts.
-/
import Derived.Test.YtefbgdnobnemkaaM6
namespace Go.Proofs.Ytefbgdnobnemkaa.AM
open Go Go.RowKit

/-- The types at which two structs of two ints are held against each other. -/
def Eq2Ok (P : Program) (eq2 : TypeId → Bool) : Prop := ∀ t, eq2 t = true →
  (∀ op x y u v w, (eqGuard op t x y (.agg u) (.agg v)).run P w = .ok () w) ∧
  ∀ a b c d w, (Op.equal t (.agg #[.int .i64 a, .int .i64 b]) (.agg #[.int .i64 c, .int .i64 d])).run P w = .ok (decide (a = c ∧ b = d)) w

section
variable {P : Program} {tab : Tab} {w0 : World} {A0 A : Nat → Prop} {ρ : Rho} {s : AState} {a : Act} {w : World} {o : Oper}

theorem str_toList (l : List UInt8) : (ByteArray.mk l.toArray).toList = l := by rw [ByteArray.toList_eq]

theorem guard_plain (op : BinOp) (t : TypeId) (x y : Operand) {u v : Value} (hu : u.oneCell' = true) (hn : u ≠ .nilIface) : (eqGuard op t x y u v).run P w = .ok () w := by
  cases u <;> first
    | (exfalso; simp [Value.oneCell'] at hu; done)
    | (exact absurd rfl hn)
    | (unfold eqGuard; cases op <;> rfl)

theorem run_equalIn_bool (n : Nat) {t : TypeId} (p q : Bool) (h : P.underlying t = some .bool) : (Op.equalIn (n + 1) t (.bool p) (.bool q)).run P w = .ok (p == q) w := by
  simp [Op.equalIn, run_underlying h]
theorem run_equal_bool {t : TypeId} (p q : Bool) (h : P.underlying t = some .bool) : (Op.equal t (.bool p) (.bool q)).run P w = .ok (p == q) w := run_equalIn_bool 9999 p q h

theorem exec_bin {op : BinOp} {t t' : TypeId} {x y : Operand} (ho : o.op = .binOp op t x y t') (hg : (eqGuard op t x y (a.eval x) (a.eval y)).run P w = .ok () w) {v : Value}
    (hr : (binOp op t (a.eval x) (a.eval y)).run P w = .ok v w) : (execOp a.eval o).run P w = .ok (.value v) w := by
  simp [execOp, ho, hg, hr]

theorem int2_of_R {v : Value} {p q : Int} (h : R ρ A w v (.agg [.int .i64 p, .int .i64 q])) : v = .agg #[.int .i64 p, .int .i64 q] := by
  obtain ⟨cs, rfl, hl, hr, _⟩ := h.agg_inv
  have h0 := (hr 0 _ rfl).int_inv
  have h1 := (hr 1 _ rfl).int_inv
  congr 1
  apply Array.ext'
  obtain ⟨l⟩ := cs
  simp at hl
  match l, hl with
  | [u, v], _ => simp at h0 h1; simp [h0, h1]

theorem ok_bin_val {eq2 : TypeId → Bool} {isb : Bool} {op : BinOp} {t t' : TypeId} {x y : Operand} {pre : Prop} {v : AV} {u : List (Nat × Option Obj)} {n : List Nat} (ho : o.op = .binOp op t x y t') (h : St w0 A0 A ρ s a w)
    (hx : abin eq2 isb op t (s.ev x) (s.ev y) = .val pre v u n) (hp : pre) : Goes P o a w (Sim w0 A0 (s.app o.dst v u)) := by
  unfold abin at hx
  split at hx
  · rename_i k p k' q e1 e2
    have r1 := (e1 ▸ h.ev x : R ρ A w (a.eval x) _).int_inv
    have r2 := (e2 ▸ h.ev y : R ρ A w (a.eval y) _).int_inv
    split at hx
    · rename_i hk
      have hk := of_decide_eq_true hk
      subst hk
      obtain ⟨rfl, val, hr, hR⟩ := run_int_val (P := P) (ρ := ρ) (A := A) (w := w) t hx hp
      exact goes_value h (exec_bin ho (by rw [r1]; exact guard_plain _ _ _ _ rfl (by simp)) (by rw [r1, r2]; exact hr)) hR
    · cases hx
  · rename_i p q e1 e2
    have r1 := (e1 ▸ h.ev x : R ρ A w (a.eval x) _).str_inv
    have r2 := (e2 ▸ h.ev y : R ρ A w (a.eval y) _).str_inv
    split at hx
    · cases hx
      refine goes_value h (val := .string ⟨(p ++ q).toArray⟩) (exec_bin ho (by rw [r1]; exact guard_plain _ _ _ _ rfl (by simp)) ?_) (.str _)
      rw [r1, r2]
      have hle : ¬ ((p.length + q.length : Nat) : Int) > IntKind.i64.max := by
        simp [IntKind.max, IntKind.signed, IntKind.bits]; omega
      simp [binOp, Op.stringOp, ByteArray.size, IntKind.max, IntKind.signed, IntKind.bits] at hle ⊢
      rw [if_neg (by omega)]
      simp only [Result.ok.injEq, Value.string.injEq, and_true]
      apply ByteArray.ext
      simp
    · cases hx
    · cases hx
    · cases hx
  · split at hx <;> cases hx
  · split at hx <;> cases hx
  · cases hx

theorem ok_bin_test {eq2 : TypeId → Bool} (heq : Eq2Ok P eq2) {isb : Bool} {op : BinOp} {t t' : TypeId} {x y : Operand} {φ : Prop} {d : Decidable φ} (hb : isb = true → P.underlying t = some .bool) (ho : o.op = .binOp op t x y t') (h : St w0 A0 A ρ s a w)
    (hx : abin eq2 isb op t (s.ev x) (s.ev y) = .test φ d) : Goes P o a w (Sim w0 A0 (s.app o.dst (.bool (decide φ)) [])) := by
  unfold abin at hx
  split at hx
  · rename_i k p k' q e1 e2
    have r1 := (e1 ▸ h.ev x : R ρ A w (a.eval x) _).int_inv
    have r2 := (e2 ▸ h.ev y : R ρ A w (a.eval y) _).int_inv
    split at hx
    · rename_i hk
      have hk := of_decide_eq_true hk
      subst hk
      exact goes_value h (exec_bin ho (by rw [r1]; exact guard_plain _ _ _ _ rfl (by simp)) (by rw [r1, r2]; exact run_int_test t hx)) (.bool _)
    · cases hx
  · rename_i p q e1 e2
    have r1 := (e1 ▸ h.ev x : R ρ A w (a.eval x) _).str_inv
    have r2 := (e2 ▸ h.ev y : R ρ A w (a.eval y) _).str_inv
    split at hx
    · cases hx
    · cases hx
      refine goes_value h (exec_bin ho (by rw [r1]; exact guard_plain _ _ _ _ rfl (by simp)) (v := .bool (decide (p = q))) ?_) (.bool _)
      rw [r1, r2]
      simp only [binOp, Op.stringOp, str_toList, Sem.run_pure]
      by_cases e : p = q <;> simp [e]
    · cases hx
      refine goes_value h (exec_bin ho (by rw [r1]; exact guard_plain _ _ _ _ rfl (by simp)) (v := .bool (decide (p ≠ q))) ?_) (.bool _)
      rw [r1, r2]
      simp only [binOp, Op.stringOp, str_toList, Sem.run_pure]
      by_cases e : p = q <;> simp [e]
    · cases hx
  · rename_i p q e1 e2
    have r1 := (e1 ▸ h.ev x : R ρ A w (a.eval x) _).bool_inv
    have r2 := (e2 ▸ h.ev y : R ρ A w (a.eval y) _).bool_inv
    split at hx
    · cases hx
      refine goes_value h (exec_bin ho (by rw [r1]; exact guard_plain _ _ _ _ rfl (by simp)) (v := .bool (decide (p = q))) ?_) (.bool _)
      rw [r1, r2]
      simp only [binOp, Sem.run_bind, Sem.run_pure, run_equal_bool _ _ (hb rfl), Result.andThen_ok]
      cases p <;> cases q <;> rfl
    · cases hx
      refine goes_value h (exec_bin ho (by rw [r1]; exact guard_plain _ _ _ _ rfl (by simp)) (v := .bool (decide (p ≠ q))) ?_) (.bool _)
      rw [r1, r2]
      simp only [binOp, Sem.run_bind, Sem.run_pure, run_equal_bool _ _ (hb rfl), Result.andThen_ok]
      cases p <;> cases q <;> rfl
    · cases hx
  · rename_i p q p' q' e1 e2
    have r1 := int2_of_R (e1 ▸ h.ev x : R ρ A w (a.eval x) _)
    have r2 := int2_of_R (e2 ▸ h.ev y : R ρ A w (a.eval y) _)
    split at hx
    · rename_i he
      cases hx
      refine goes_value h (exec_bin ho (by rw [r1, r2]; exact (heq t he).1 _ _ _ _ _ _) (v := .bool (decide (p = p' ∧ q = q'))) ?_) (.bool _)
      rw [r1, r2]
      simp only [binOp, Sem.run_bind, Sem.run_pure, (heq t he).2, Result.andThen_ok]
    · rename_i he
      cases hx
      refine goes_value h (exec_bin ho (by rw [r1, r2]; exact (heq t he).1 _ _ _ _ _ _) (v := .bool (decide (¬ (p = p' ∧ q = q')))) ?_) (.bool _)
      rw [r1, r2]
      simp only [binOp, Sem.run_bind, Sem.run_pure, (heq t he).2, Result.andThen_ok]
      by_cases e : p = p' ∧ q = q' <;> simp [e]
    · cases hx
  · cases hx

end
end Go.Proofs.Ytefbgdnobnemkaa.AM
