/-
  Each operation of the model does what the abstract machine says: variables that are made and written.
-/
import Derived.Test.YtefbgdnobnemkaaM11
namespace Go.Proofs.Ytefbgdnobnemkaa.AM
open Go Go.RowKit

def setA {α : Type} : Array α → Nat → List α → Array α
  | l, _, [] => l
  | l, o, x :: xs => setA (l.setIfInBounds o x) (o + 1) xs

theorem setA_toList {α : Type} : ∀ (xs : List α) (l : Array α) (o : Nat), (setA l o xs).toList = setL l.toList o xs
  | [], _, _ => rfl
  | x :: xs, l, o => by rw [setA, setA_toList xs, Array.toList_setIfInBounds]; rfl

theorem setL_length {α : Type} : ∀ (xs : List α) (l : List α) (o : Nat), (setL l o xs).length = l.length
  | [], _, _ => rfl
  | x :: xs, l, o => by rw [setL, setL_length xs, List.length_set]

theorem setL_getElem? {α : Type} : ∀ (xs : List α) (l : List α) (o i : Nat), (setL l o xs)[i]? = if o ≤ i ∧ i < o + xs.length ∧ i < l.length then xs[i - o]? else l[i]?
  | [], l, o, i => by
    rw [setL, if_neg (by simp; omega)]
  | x :: xs, l, o, i => by
    rw [setL, setL_getElem? xs, List.length_set]
    by_cases h1 : o + 1 ≤ i ∧ i < o + 1 + xs.length ∧ i < l.length
    · rw [if_pos h1, if_pos (by simp; omega), show i - o = (i - (o + 1)) + 1 by omega, List.getElem?_cons_succ]
    · rw [if_neg h1, List.getElem?_set]
      by_cases h2 : o = i
      · subst h2
        by_cases h3 : o < l.length
        · simp [h3]
        · simp [h3]
      · rw [if_neg h2]
        rw [if_neg (by simp; omega)]

theorem setA_size {α : Type} (xs : List α) (l : Array α) (o : Nat) : (setA l o xs).size = l.size := by
  rw [← Array.length_toList, setA_toList, setL_length, Array.length_toList]

theorem heap_setCells_same (b : Nat) : ∀ (vs : List Value) (o : Nat) (w : World) {cur : Array Value} {e : TypeId} {fr : Nat × Nat}, w.heap[b]? = some (.cells cur e fr) → (w.setCells b o vs).heap[b]? = some (.cells (setA cur o vs) e fr)
  | [], _, _, _, _, _, h => h
  | v :: r, o, w, cur, e, fr, h => by
    rw [World.setCells]
    refine heap_setCells_same b r (o + 1) _ ?_
    simp only [World.setCell, Array.getElem?_modify, if_true, h]
    simp

theorem heap_setCells_other (b : Nat) : ∀ (vs : List Value) (o : Nat) (w : World) (k : Nat), k ≠ b → (w.setCells b o vs).heap[k]? = w.heap[k]?
  | [], _, _, _, _ => rfl
  | v :: r, o, w, k, h => by rw [World.setCells, heap_setCells_other b r (o + 1) _ k h, Below.heap_setCell _ _ _ _ h]

theorem size_setCells (b : Nat) : ∀ (vs : List Value) (o : Nat) (w : World), (w.setCells b o vs).heap.size = w.heap.size
  | [], _, _ => rfl
  | v :: r, o, w => by rw [World.setCells, size_setCells b r, World.size_setCell]

theorem below_setCells {B b : Nat} (hb : B ≤ b) : ∀ (vs : List Value) (o : Nat) (w : World), Below B w (w.setCells b o vs)
  | [], _, w => Below.refl B w
  | v :: r, o, w => by
    rw [World.setCells]
    exact ((Below.refl B w).setCell (p := ⟨b, o, none⟩) hb v).trans (below_setCells hb r (o + 1) _)

theorem absV_ments (v : Value) : (absV v).ments = [] := by
  unfold absV
  split <;> simp [AV.ments]

theorem fresh_ev {s : AState} {d : Nat} (h : s.fresh d) (x : Operand) : d ∉ (s.ev x).ments := by
  cases x with
  | tmp t => exact h.1 t
  | const v => simp [AState.ev, absV_ments]
  | global g => simp [AState.ev, AV.ments]
  | func f => simp [AState.ev, AV.ments, mentsL]

theorem cellsOf_ments {x : AV} {cs : List AV} {i d : Nat} {y : AV} (hc : x.cellsOf = some cs) (hy : cs[i]? = some y) (hd : d ∈ y.ments) : d ∈ x.ments := by
  cases x <;> simp_all [AV.cellsOf]
  case agg => subst hc; simpa [AV.ments] using mem_mentsL hy hd
  all_goals
    subst hc
    cases i with
    | zero => simp at hy; subst hy; exact hd
    | succ i => simp at hy

theorem mentsL_of {d : Nat} : ∀ {xs : List AV}, d ∈ mentsL xs → ∃ (i : Nat) (x : AV), xs[i]? = some x ∧ d ∈ x.ments
  | [], h => by simp [mentsL] at h
  | x :: xs, h => by
    simp only [mentsL, List.mem_append] at h
    rcases h with h | h
    · exact ⟨0, x, rfl, h⟩
    · obtain ⟨i, y, hy, hd⟩ := mentsL_of h
      exact ⟨i + 1, y, by simpa using hy, hd⟩

section
variable {P : Program} {tab : Tab} {w0 : World} {A0 A : Nat → Prop} {ρ : Rho} {s : AState} {a : Act} {w : World} {o : Oper}

theorem below_alloc (w : World) (ob : Go.Obj) : Below w.heap.size w (w.alloc ob) := (Below.refl _ _).alloc (Nat.le_refl _) ob

/-- A new variable. -/
theorem goes_new {d e : Nat} {cells : Array Value} {c : AV} {app : Bool} (h : St w0 A0 A ρ s a w) (hf : s.fresh d) (hrun : (execOp a.eval o).run P w = .ok (.value (.pointer (some ⟨w.heap.size, 0, none⟩))) (w.alloc (.cells cells e (0, 0))))
    (hn : c.rowlen = none) (hc : ∀ i x, c.cell? i = some x → i < cells.size ∧ (cells.getD i undef).oneCell' = true ∧ R ρ A w (cells.getD i undef) x) (hm : d ∉ c.ments) :
    Goes P o a w (Sim w0 A0 (s.app o.dst (.ptr d 0) [(d, some { wr := true, app := app, c := c, e := e })])) := by
  have hb := below_alloc w (.cells cells e (0, 0))
  have hnew : (w.alloc (.cells cells e (0, 0))).heap[w.heap.size]? = some (.cells cells e (0, 0)) := heap_alloc_new w _
  have hs : (w.alloc (.cells cells e (0, 0))).heap.size = w.heap.size + 1 := by simp
  have h' := h.newobj hf hb (ob := { wr := true, app := app, c := c, e := e }) (ro := .box w.heap.size) (fun b hb' => by cases hb'; exact ⟨Nat.le_refl _, by omega⟩)
    ⟨hn, h.below.size, by omega, fun _ hA => absurd (h.bound _ hA) (by omega), fun hx => (by cases hx), fun i x hx => by
      obtain ⟨h1, h2, h3⟩ := hc i x hx
      refine ⟨by simp only [World.frozen?, hnew]; simp, cells.getD i undef, ?_, h2, ?_⟩
      · simp only [World.cell?, hnew]
        simp [Array.getD_eq_getD_getElem?, h1]
      · exact (h3.mono (fun _ h => h) (fun b hb' => hb.block b (h.bound b hb')) (fun x hx' => Rho.set_other ρ _ (fun e => hm (AV.cell?_ments hx (e ▸ hx')))))⟩
  exact .inl ⟨_, _, hrun, A, ρ.set d (.box w.heap.size), h'.put o.dst (.ptr d 0 _ rfl fun b hb' => by rw [Rho.set_same] at hb'; cases hb'; rfl)⟩

theorem ok_alloc {t d : Nat} {ti : TI} (hT : TabOk P tab) (ho : o.op = .alloc t) (h1 : tab t = some ti) (h : St w0 A0 A ρ s a w) (hf : s.fresh d) (hz : ∀ (i : Nat) (x : AV), ti.zero[i]? = some x → x.ments = []) :
    Goes P o a w (Sim w0 A0 (s.app o.dst (.ptr d 0) [(d, some { wr := true, app := false, c := .agg ti.zero, e := t })])) := by
  obtain ⟨i, z, hi, hs1, hs2, hs3, hs4, hs5, hs6⟩ := (hT t ti h1).info
  refine goes_new (cells := z.cells) h hf ?_ rfl (fun j x hx => ?_) ?_
  · simp [execOp, ho, Instr.alloc, zeroValue, typeInfo, hi, hs3, newVar, newRow]
  · have hlt := (List.getElem?_eq_some_iff.1 hx).1
    obtain ⟨h2, h3⟩ := hs6 ρ A w j x hx
    exact ⟨by omega, h3, h2⟩
  · intro hm
    obtain ⟨i, x, hx, hd⟩ := mentsL_of (by simpa [AV.ments] using hm)
    rw [hz i x hx] at hd
    cases hd

theorem ok_box {t d : Nat} {x : Operand} {cs : List AV} (ho : o.op = .box t x) (h : St w0 A0 A ρ s a w) (hf : s.fresh d) (hc : (s.ev x).cellsOf = some cs) :
    Goes P o a w (Sim w0 A0 (s.app o.dst (.ptr d 0) [(d, some { wr := true, app := false, c := .agg cs, e := t })])) := by
  obtain ⟨h1, h2⟩ := (h.ev x).cells hc
  refine goes_new (cells := (a.eval x).cells) h hf ?_ rfl (fun j y hy => ?_) ?_
  · simp [execOp, ho, Instr.box, newVar, newRow]
  · have hlt := (List.getElem?_eq_some_iff.1 hy).1
    exact ⟨by omega, h2 j y hy⟩
  · intro hm
    obtain ⟨i, y, hy, hd'⟩ := mentsL_of (by simpa [AV.ments] using hm)
    exact fresh_ev hf x (cellsOf_ments hc hy hd')

/-- Cells written into what a variable or a row holds. -/
theorem setAt_cell? {c c' : AV} {off : Nat} {xs : List AV} (h : c.setAt off xs = some c') (hl : off + xs.length ≤ c.ncells) (hb : ∀ bs, c = .slB bs → ∀ n, xs = [.int .u8 n] → 0 ≤ n ∧ n ≤ 255) :
    c'.rowlen = c.rowlen ∧ c'.esz = c.esz ∧ ∀ i y, c'.cell? i = some y → if off ≤ i ∧ i < off + xs.length then xs[i - off]? = some y else c.cell? i = some y := by
  unfold AV.setAt at h
  split at h
  · cases h
    refine ⟨rfl, rfl, fun i y hy => ?_⟩
    simp only [AV.cell?, setL_getElem?] at hy
    simp only [AV.ncells] at hl
    by_cases hi : off ≤ i ∧ i < off + xs.length
    · rw [if_pos ⟨hi.1, hi.2, by omega⟩] at hy; rw [if_pos hi]; exact hy
    · rw [if_neg (by omega)] at hy; rw [if_neg hi]; exact hy
  · cases h
    rename_i sz cs _
    refine ⟨by simp [AV.rowlen, setL_length], rfl, fun i y hy => ?_⟩
    simp only [AV.cell?, setL_getElem?] at hy
    simp only [AV.ncells] at hl
    by_cases hi : off ≤ i ∧ i < off + xs.length
    · rw [if_pos ⟨hi.1, hi.2, by omega⟩] at hy; rw [if_pos hi]; exact hy
    · rw [if_neg (by omega)] at hy; rw [if_neg hi]; exact hy
  · cases h
    rename_i ls l
    refine ⟨by simp [AV.rowlen], rfl, fun i y hy => ?_⟩
    simp only [AV.cell?, List.getElem?_set, Option.map_eq_some_iff] at hy ⊢
    simp only [AV.ncells, List.length_cons, List.length_nil] at hl ⊢
    obtain ⟨z, hz, rfl⟩ := hy
    by_cases hi : off = i
    · subst hi
      rw [if_pos rfl, if_pos (by omega)] at hz
      cases hz
      rw [if_pos (by omega)]; simp
    · rw [if_neg hi] at hz
      rw [if_neg (by omega)]
      exact ⟨z, hz, rfl⟩
  · cases h
    rename_i ls n
    refine ⟨by simp [AV.rowlen], rfl, fun i y hy => ?_⟩
    simp only [AV.cell?, List.getElem?_set, Option.map_eq_some_iff] at hy ⊢
    simp only [AV.ncells, List.length_cons, List.length_nil] at hl ⊢
    obtain ⟨z, hz, rfl⟩ := hy
    by_cases hi : off = i
    · subst hi
      rw [if_pos rfl, if_pos (by omega)] at hz
      cases hz
      rw [if_pos (by omega)]
      have := hb ls rfl n rfl
      have e : (n.toNat : Int) = n := Int.toNat_of_nonneg this.1
      have e2 : (UInt8.ofNat n.toNat).toNat = n.toNat := by
        rw [UInt8.toNat_ofNat']; omega
      simp [e2, e]
    · rw [if_neg hi] at hz
      rw [if_neg (by omega)]
      exact ⟨z, hz, rfl⟩
  · cases h

end
end Go.Proofs.Ytefbgdnobnemkaa.AM
