/-
  Each operation of the model does what the abstract machine says: reads and arithmetic.
-/
import Derived.Test.YtefbgdnobnemkaaM5
namespace Go.Proofs.Ytefbgdnobnemkaa.AM
open Go Go.RowKit

/-- The operation ends, with a value or without, and so. -/
def Goes (P : Program) (o : Oper) (a : Act) (w : World) (K : Act → World → Prop) : Prop :=
  (∃ v w', (execOp a.eval o).run P w = .ok (.value v) w' ∧ K (a.put o.dst v) w') ∨ (∃ w', (execOp a.eval o).run P w = .ok .skip w' ∧ K (a.put o.dst undef) w')

theorem Goes.wp {P : Program} {o : Oper} {a : Act} {w : World} {K : Act → World → Prop} {Q : Exit → Act → World → Prop} (h : Goes P o a w K) : o.wp P a w K Q := by
  unfold Oper.wp
  rcases h with ⟨v, w', h, hk⟩ | ⟨w', h, hk⟩
  · rw [h]; exact hk
  · rw [h]; exact hk

def Sim (w0 : World) (A0 : Nat → Prop) (s : AState) (a : Act) (w : World) : Prop := ∃ A ρ, St w0 A0 A ρ s a w

/-- The run yields this value, and leaves the world. -/
def Yields (P : Program) (w : World) (x : Sem Value) (v : Value) : Prop := x.run P w = .ok v w

section
variable {P : Program} {tab : Tab} {w0 : World} {A0 A : Nat → Prop} {ρ : Rho} {s : AState} {a : Act} {w : World} {o : Oper}

theorem goes_value (h : St w0 A0 A ρ s a w) {val : Value} {v : AV} (hr : (execOp a.eval o).run P w = .ok (.value val) w) (hv : R ρ A w val v) :
    Goes P o a w (Sim w0 A0 (s.app o.dst v [])) :=
  .inl ⟨val, w, hr, A, ρ, h.put o.dst hv⟩

theorem R.int_inv {v : Value} {k : IntKind} {n : Int} (h : R ρ A w v (.int k n)) : v = .int k n := by
  cases h <;> first | rfl | simp_all [AV.rowlen]
theorem R.bool_inv {v : Value} {b : Bool} (h : R ρ A w v (.bool b)) : v = .bool b := by
  cases h <;> first | rfl | simp_all [AV.rowlen]
theorem R.str_inv {v : Value} {l : List UInt8} (h : R ρ A w v (.str l)) : v = .string ⟨l.toArray⟩ := by
  cases h <;> first | rfl | simp_all [AV.rowlen]
theorem R.nilsl_inv {v : Value} (h : R ρ A w v .nilsl) : v = .slice none 0 0 := by
  cases h <;> first | rfl | simp_all [AV.rowlen]
theorem R.agg_inv {v : Value} {xs : List AV} (h : R ρ A w v (.agg xs)) : ∃ cs : Array Value, v = .agg cs ∧ cs.size = xs.length ∧ (∀ i x, xs[i]? = some x → R ρ A w (cs.getD i undef) x) ∧ ∀ i, i < xs.length → (cs.getD i undef).oneCell' = true := by
  cases h <;> first | (exact ⟨_, rfl, ‹_›, ‹_›, ‹_›⟩) | simp_all [AV.rowlen]
theorem R.tup_inv {v : Value} {xs : List AV} (h : R ρ A w v (.tup xs)) : ∃ cs : Array Value, v = .tuple cs ∧ cs.size = xs.length ∧ (∀ i x, xs[i]? = some x → R ρ A w (cs.getD i undef) x) := by
  cases h <;> first | (exact ⟨_, rfl, ‹_›, ‹_›⟩) | simp_all [AV.rowlen]
theorem R.fn_inv {v : Value} {f : FuncId} {xs : List AV} (h : R ρ A w v (.fn f xs)) : ∃ cs : Array Value, v = .func (.func f) #[] cs ∧ cs.size = xs.length ∧ (∀ i x, xs[i]? = some x → R ρ A w (cs.getD i undef) x) := by
  cases h <;> first | (exact ⟨_, rfl, ‹_›, ‹_›⟩) | simp_all [AV.rowlen]
theorem R.cptr_inv {v : Value} {c : AV} {off : Nat} (h : R ρ A w v (.cptr c off)) : ∃ (b o0 : Nat) (vs : Nat → Value), v = .pointer (some ⟨b, o0 + off, none⟩) ∧ A b ∧
    (∀ i x, c.cell? i = some x → w.cell? ⟨b, o0 + i, none⟩ = some (vs i)) ∧ (∀ i x, c.cell? i = some x → R ρ A w (vs i) x) ∧ (∀ i x, c.cell? i = some x → (vs i).oneCell' = true) := by
  cases h <;> first | (exact ⟨_, _, _, rfl, ‹_›, ‹_›, ‹_›, ‹_›⟩) | simp_all [AV.rowlen]
/-- A row that nobody writes. -/
theorem R.row_inv {v : Value} {c : AV} {n : Nat} (hc : c.rowlen = some n) (h : R ρ A w v c) : (v = .slice none 0 0 ∧ n = 0) ∨ ∃ (b off cap : Nat) (vs : Nat → Value), v = .slice (some ⟨b, off, none⟩) n cap ∧ A b ∧ n ≤ cap ∧
    (∀ i x, c.cell? i = some x → w.cell? ⟨b, off + i, none⟩ = some (vs i)) ∧ (∀ i x, c.cell? i = some x → R ρ A w (vs i) x) ∧ (∀ i x, c.cell? i = some x → (vs i).oneCell' = true) := by
  cases h with
  | row0 _ h => rw [hc] at h; cases h; exact .inl ⟨rfl, rfl⟩
  | row b off m cap _ vs hn hA hcap h1 h2 h3 => rw [hc] at hn; cases hn; exact .inr ⟨b, off, cap, vs, rfl, hA, hcap, h1, h2, h3⟩
  | junk => simp [AV.rowlen] at hc
  | _ => simp [AV.rowlen] at hc

theorem R.oneCell {v : Value} {x : AV} {cs : List AV} (h : R ρ A w v x) (hc : x.cellsOf = some cs) (hx : ∀ l, x ≠ .agg l) : v.oneCell' = true ∧ cs = [x] := by
  refine ⟨?_, by cases x <;> simp_all [AV.cellsOf]⟩
  cases h with
  | junk => simp [AV.cellsOf] at hc
  | tup => simp [AV.cellsOf] at hc
  | agg _ xs => exact absurd rfl (hx xs)
  | ptr _ _ _ h1 => exact h1
  | own _ _ _ h1 => exact h1
  | eptr _ _ _ _ h1 => exact h1
  | _ => rfl

/-- A value's cells read as the abstract value's cells. -/
theorem R.cells {v : Value} {x : AV} {cs : List AV} (h : R ρ A w v x) (hc : x.cellsOf = some cs) :
    v.cells.size = cs.length ∧ ∀ i y, cs[i]? = some y → (v.cells.getD i undef).oneCell' = true ∧ R ρ A w (v.cells.getD i undef) y := by
  by_cases hx : ∃ l, x = .agg l
  · obtain ⟨l, rfl⟩ := hx
    simp only [AV.cellsOf, Option.some.injEq] at hc
    subst hc
    obtain ⟨vs, rfl, h1, h2, h3⟩ := h.agg_inv
    exact ⟨h1, fun i y hy => ⟨h3 i (List.getElem?_eq_some_iff.1 hy).1, h2 i y hy⟩⟩
  · obtain ⟨h1, rfl⟩ := h.oneCell hc (fun l e => hx ⟨l, e⟩)
    have hcells : v.cells = #[v] := by cases v <;> simp_all [Value.cells, Value.oneCell']
    refine ⟨by simp [hcells], fun i y hy => ?_⟩
    have : i = 0 := by
      have := (List.getElem?_eq_some_iff.1 hy).1
      simp at this; exact this
    subst this
    simp at hy
    subst hy
    simp only [hcells]
    exact ⟨h1, h⟩

theorem ok_move {x : Operand} (ho : o.op = .move x ∨ o.op = .assign x) (h : St w0 A0 A ρ s a w) : Goes P o a w (Sim w0 A0 (s.app o.dst (s.ev x) [])) := by
  refine goes_value h (val := a.eval x) ?_ (h.ev x)
  rcases ho with ho | ho <;> simp [execOp, ho]

theorem ok_pick {c x y : Operand} {b : Bool} (ho : o.op = .pick c x y) (h : St w0 A0 A ρ s a w) (hc : s.ev c = .bool b) :
    Goes P o a w (Sim w0 A0 (s.app o.dst (if b then s.ev x else s.ev y) [])) := by
  have hb := (hc ▸ h.ev c : R ρ A w (a.eval c) (.bool b)).bool_inv
  refine goes_value h (val := if b then a.eval x else a.eval y) ?_ ?_
  · simp [execOp, ho, hb, asBool]
  · cases b
    · exact h.ev y
    · exact h.ev x

theorem ok_extract {x : Operand} {i : Nat} {vs : List AV} {v : AV} (ho : o.op = .extract x i) (h : St w0 A0 A ρ s a w) (hx : s.ev x = .tup vs) (hv : vs[i]? = some v) :
    Goes P o a w (Sim w0 A0 (s.app o.dst v [])) := by
  obtain ⟨cs, he, hl, hr⟩ := (hx ▸ h.ev x : R ρ A w (a.eval x) (.tup vs)).tup_inv
  have hi : i < cs.size := by rw [hl]; exact (List.getElem?_eq_some_iff.1 hv).1
  refine goes_value h (val := cs.getD i undef) ?_ (hr i v hv)
  simp [execOp, ho, he, Instr.extract, hi]

theorem ok_un {op : UnOp} {t : TypeId} {x : Operand} {pre : Prop} {v : AV} {u : List (Nat × Option Obj)} {n : List Nat} (ho : o.op = .unOp op t x) (h : St w0 A0 A ρ s a w)
    (hx : aun op (s.ev x) = .val pre v u n) : Goes P o a w (Sim w0 A0 (s.app o.dst v u)) := by
  unfold aun at hx
  split at hx
  · rename_i b hb
    cases hx
    have := (hb ▸ h.ev x : R ρ A w (a.eval x) (.bool b)).bool_inv
    refine goes_value h (val := .bool (!b)) ?_ (.bool _)
    simp [execOp, ho, this, Op.unary]
  · cases hx

/-- Numbers: what the model's operation gives. -/
theorem run_int_val {op : BinOp} {k : IntKind} {x y : Int} {pre : Prop} {v : AV} {u : List (Nat × Option Obj)} {n : List Nat} (t : TypeId) (hx : aint op k x y = .val pre v u n) (hp : pre) :
    u = [] ∧ ∃ val, (binOp op t (.int k x) (.int k y)).run P w = .ok val w ∧ R ρ A w val v := by
  cases op <;> simp only [aint, AOut.need, AOut.val.injEq, reduceCtorEq] at hx <;> obtain ⟨rfl, rfl, rfl, rfl⟩ := hx
  · exact ⟨rfl, _, by simp [binOp, Op.intArith, wrap_inK hp], .int _ _⟩
  · exact ⟨rfl, _, by simp [binOp, Op.intArith, wrap_inK hp], .int _ _⟩
  · exact ⟨rfl, _, by simp [binOp, Op.intArith, wrap_inK hp], .int _ _⟩
  · exact ⟨rfl, _, by simp [binOp, Op.intDiv, hp.1, wrap_inK hp.2], .int _ _⟩
  · exact ⟨rfl, _, by simp [binOp, Op.intDiv, hp], .int _ _⟩

theorem run_int_test {op : BinOp} {k : IntKind} {x y : Int} {φ : Prop} {d : Decidable φ} (t : TypeId) (hx : aint op k x y = .test φ d) :
    (binOp op t (.int k x) (.int k y)).run P w = .ok (.bool (decide φ)) w := by
  cases op <;> simp only [aint, AOut.need, AOut.test.injEq, reduceCtorEq] at hx <;> obtain ⟨rfl, hd⟩ := hx <;> cases hd
  · simp [binOp, Op.intCmp]
    by_cases h : x = y <;> simp [h]
  · simp [binOp, Op.intCmp]
    by_cases h : x = y <;> simp [h]
  · simp [binOp, Op.intCmp]
  · simp [binOp, Op.intCmp]
  · simp [binOp, Op.intCmp]
  · simp [binOp, Op.intCmp]

end
end Go.Proofs.Ytefbgdnobnemkaa.AM
