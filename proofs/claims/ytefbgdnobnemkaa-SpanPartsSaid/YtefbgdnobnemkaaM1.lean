/-
  An abstract machine for the Go model's region code: values, and when a value of the model reads as an abstract one.
-/
import Derived.WalkKit
import Derived.Orders
import Derived.OwnWalk
namespace Go.Proofs.Ytefbgdnobnemkaa.AM
open Go Go.RowKit

/-- Abstract values. Closed ones speak of memory that nobody writes; 'ptr', 'own', 'eptr' speak of the objects of the call that runs. -/
inductive AV where
  | junk
  | int (k : IntKind) (n : Int)
  | bool (b : Bool)
  | str (l : List UInt8)
  | nilsl
  | nilptr
  | slS (xs : List (List UInt8))
  | slB (bs : List UInt8)
  | slG (sz : Nat) (cells : List AV)
  | cptr (c : AV) (off : Nat)
  | agg (cells : List AV)
  | tup (vs : List AV)
  | fn (f : FuncId) (caps : List AV)
  | ptr (d off : Nat)
  | own (d n : Nat)
  | eptr (d n off : Nat)

mutual
/-- The objects of the running call that a value mentions. -/
def AV.ments : AV → List Nat
  | .slG _ cs => mentsL cs
  | .cptr c _ => c.ments
  | .agg cs => mentsL cs
  | .tup cs => mentsL cs
  | .fn _ cs => mentsL cs
  | .ptr d _ => [d]
  | .own d _ => [d]
  | .eptr d _ _ => [d]
  | _ => []
def mentsL : List AV → List Nat
  | [] => []
  | x :: xs => x.ments ++ mentsL xs
end

theorem mem_mentsL {d : Nat} {x : AV} : ∀ {xs : List AV} {i : Nat}, xs[i]? = some x → d ∈ x.ments → d ∈ mentsL xs
  | [], i, h, _ => by simp at h
  | y :: ys, 0, h, hd => by
    simp at h; subst h; simp [mentsL, hd]
  | y :: ys, i + 1, h, hd => by
    simp at h
    have := mem_mentsL h hd
    simp [mentsL, this]

/-- The cells of what a row or a struct holds. -/
def AV.cell? : AV → Nat → Option AV
  | .slS xs, i => (xs[i]?).map AV.str
  | .slB bs, i => (bs[i]?).map fun b => .int .u8 (b.toNat : Int)
  | .slG _ cs, i => cs[i]?
  | .agg cs, i => cs[i]?
  | _, _ => none

/-- How many elements a row holds. -/
def AV.rowlen : AV → Option Nat
  | .slS xs => some xs.length
  | .slB bs => some bs.length
  | .slG sz cs => if 0 < sz ∧ cs.length = cs.length / sz * sz then some (cs.length / sz) else none
  | _ => none

def AV.esz : AV → Nat
  | .slG sz _ => sz
  | _ => 1

def AV.ncells : AV → Nat
  | .slS xs => xs.length
  | .slB bs => bs.length
  | .slG _ cs => cs.length
  | .agg cs => cs.length
  | _ => 0

/-- The cell of a number, told for the common kinds. -/
def AV.get : AV → Nat → AV
  | .slS xs, i => .str (xs.getD i [])
  | .slB bs, i => .int .u8 ((bs.getD i 0).toNat : Int)
  | .slG _ cs, i => cs.getD i .junk
  | .agg cs, i => cs.getD i .junk
  | _, _ => .junk

theorem AV.cell?_get {c : AV} {i : Nat} (h : i < c.ncells) : c.cell? i = some (c.get i) := by
  cases c <;> simp_all [AV.cell?, AV.get, AV.ncells, List.getD_eq_getElem?_getD]

theorem AV.cell?_lt {c x : AV} {i : Nat} (h : c.cell? i = some x) : i < c.ncells := by
  cases c <;> simp_all [AV.cell?, AV.ncells]
  all_goals first
    | (obtain ⟨a, h, _⟩ := h; exact (List.getElem?_eq_some_iff.1 h).1)
    | exact (List.getElem?_eq_some_iff.1 h).1

theorem AV.cell?_ments {c x : AV} {i d : Nat} (h : c.cell? i = some x) (hd : d ∈ x.ments) : d ∈ c.ments := by
  cases c <;> simp_all [AV.cell?, AV.ments]
  case slS => obtain ⟨a, _, rfl⟩ := h; simp [AV.ments] at hd
  case slB => obtain ⟨a, _, rfl⟩ := h; simp [AV.ments] at hd
  case slG => exact mem_mentsL h hd
  case agg => exact mem_mentsL h hd

/-- What stands behind an object of the running call: a variable's block; a row that may be appended to; a row as it was made. -/
inductive RO where
  | box (b : Nat)
  | row (v : Value) (len : Nat)
  | fix (b len cap : Nat)

abbrev Rho := Nat → Option RO

def RO.val? : RO → Option (Value × Nat)
  | .box _ => none
  | .row v n => some (v, n)
  | .fix b n cap => some (.slice (some ⟨b, 0, none⟩) n cap, n)

def RO.blk? : RO → Option Nat
  | .box b => some b
  | .row v _ => v.ownBlock
  | .fix b _ _ => some b

/-- A value of the model reads as an abstract one. A: the blocks that nobody writes. -/
inductive R (ρ : Rho) (A : Nat → Prop) (w : World) : Value → AV → Prop
  | junk (v : Value) : R ρ A w v .junk
  | int (k : IntKind) (n : Int) : R ρ A w (.int k n) (.int k n)
  | bool (b : Bool) : R ρ A w (.bool b) (.bool b)
  | str (l : List UInt8) : R ρ A w (.string ⟨l.toArray⟩) (.str l)
  | nilsl : R ρ A w (.slice none 0 0) .nilsl
  | nilptr : R ρ A w (.pointer none) .nilptr
  | row0 (c : AV) (h : c.rowlen = some 0) : R ρ A w (.slice none 0 0) c
  | row (b off n cap : Nat) (c : AV) (vs : Nat → Value) (hn : c.rowlen = some n) (hA : A b) (hc : n ≤ cap)
      (h1 : ∀ i x, c.cell? i = some x → w.cell? ⟨b, off + i, none⟩ = some (vs i)) (h2 : ∀ i x, c.cell? i = some x → R ρ A w (vs i) x) (h3 : ∀ i x, c.cell? i = some x → (vs i).oneCell' = true) :
      R ρ A w (.slice (some ⟨b, off, none⟩) n cap) c
  | cptr (b o0 off : Nat) (c : AV) (vs : Nat → Value) (hA : A b)
      (h1 : ∀ i x, c.cell? i = some x → w.cell? ⟨b, o0 + i, none⟩ = some (vs i)) (h2 : ∀ i x, c.cell? i = some x → R ρ A w (vs i) x) (h3 : ∀ i x, c.cell? i = some x → (vs i).oneCell' = true) :
      R ρ A w (.pointer (some ⟨b, o0 + off, none⟩)) (.cptr c off)
  | agg (cs : Array Value) (xs : List AV) (hl : cs.size = xs.length) (h : ∀ i x, xs[i]? = some x → R ρ A w (cs.getD i undef) x) (h1 : ∀ i, i < xs.length → (cs.getD i undef).oneCell' = true) : R ρ A w (.agg cs) (.agg xs)
  | tup (cs : Array Value) (xs : List AV) (hl : cs.size = xs.length) (h : ∀ i x, xs[i]? = some x → R ρ A w (cs.getD i undef) x) : R ρ A w (.tuple cs) (.tup xs)
  | fn (f : FuncId) (cs : Array Value) (xs : List AV) (hl : cs.size = xs.length) (h : ∀ i x, xs[i]? = some x → R ρ A w (cs.getD i undef) x) : R ρ A w (.func (.func f) #[] cs) (.fn f xs)
  | ptr (d off : Nat) (v : Value) (h1 : v.oneCell' = true) (h : ∀ b, ρ d = some (.box b) → v = .pointer (some ⟨b, off, none⟩)) : R ρ A w v (.ptr d off)
  | own (d n : Nat) (v : Value) (h1 : v.oneCell' = true) (h : ∀ o u len, ρ d = some o → o.val? = some (u, len) → n ≤ len ∧ (n = len → v = u)) : R ρ A w v (.own d n)
  | eptr (d n off : Nat) (v : Value) (h1 : v.oneCell' = true) (h : ∀ o u len, ρ d = some o → o.val? = some (u, len) → n ≤ len ∧ (n = len → ∀ g cap, u = .slice (some ⟨g, 0, none⟩) len cap → v = .pointer (some ⟨g, off, none⟩))) : R ρ A w v (.eptr d n off)

/-- A later state of an object: the same, or a longer row. -/
structure RO.le (o o' : RO) : Prop where
  box : ∀ b, o' = .box b → o = .box b
  val : ∀ u' n', o'.val? = some (u', n') → ∃ u n, o.val? = some (u, n) ∧ (n < n' ∨ (n = n' ∧ u = u'))

theorem RO.le_refl (o : RO) : o.le o := ⟨fun _ h => h, fun u n h => ⟨u, n, h, .inr ⟨rfl, rfl⟩⟩⟩

/-- What reads so goes on reading so, where the blocks that nobody writes stay, and objects that are mentioned stay or grow. -/
theorem R.later {ρ ρ' : Rho} {A A' : Nat → Prop} {w w' : World} {v : Value} {x : AV} (h : R ρ A w v x)
    (hA : ∀ b, A b → A' b) (hw : ∀ b, A b → w'.heap[b]? = w.heap[b]?) (hρ : ∀ d ∈ x.ments, ∀ o', ρ' d = some o' → ∃ o, ρ d = some o ∧ o.le o') : R ρ' A' w' v x := by
  induction h with
  | junk v => exact .junk v
  | int k n => exact .int k n
  | bool b => exact .bool b
  | str l => exact .str l
  | nilsl => exact .nilsl
  | nilptr => exact .nilptr
  | row0 c h => exact .row0 c h
  | row b off n cap c vs hn hAb hc h1 h2 h3 ih =>
    refine .row b off n cap c vs hn (hA b hAb) hc (fun i x hx => ?_) (fun i x hx => ih i x hx fun d hd => hρ d (AV.cell?_ments hx hd)) h3
    rw [World.cell?_of_block (w := w) (hw b hAb)]; exact h1 i x hx
  | cptr b o0 off c vs hAb h1 h2 h3 ih =>
    refine .cptr b o0 off c vs (hA b hAb) (fun i x hx => ?_) (fun i x hx => ih i x hx fun d hd => hρ d (by simpa [AV.ments] using AV.cell?_ments hx hd)) h3
    rw [World.cell?_of_block (w := w) (hw b hAb)]; exact h1 i x hx
  | agg cs xs hl h h1 ih => exact .agg cs xs hl (fun i x hx => ih i x hx fun d hd => hρ d (by simpa [AV.ments] using mem_mentsL hx hd)) h1
  | tup cs xs hl h ih => exact .tup cs xs hl fun i x hx => ih i x hx fun d hd => hρ d (by simpa [AV.ments] using mem_mentsL hx hd)
  | fn f cs xs hl h ih => exact .fn f cs xs hl fun i x hx => ih i x hx fun d hd => hρ d (by simpa [AV.ments] using mem_mentsL hx hd)
  | ptr d off v h1 h =>
    refine .ptr d off v h1 fun b hb => ?_
    obtain ⟨o, ho, hle⟩ := hρ d (by simp [AV.ments]) _ hb
    exact h b (by rw [ho, hle.box b rfl])
  | own d n v h1 h =>
    refine .own d n v h1 fun o' u' len' ho' hv' => ?_
    obtain ⟨o, ho, hle⟩ := hρ d (by simp [AV.ments]) _ ho'
    obtain ⟨u, len, hv, hh⟩ := hle.val u' len' hv'
    have := h o u len ho hv
    rcases hh with hlt | ⟨rfl, rfl⟩
    · exact ⟨by omega, fun e => by omega⟩
    · exact this
  | eptr d n off v h1 h =>
    refine .eptr d n off v h1 fun o' u' len' ho' hv' => ?_
    obtain ⟨o, ho, hle⟩ := hρ d (by simp [AV.ments]) _ ho'
    obtain ⟨u, len, hv, hh⟩ := hle.val u' len' hv'
    have := h o u len ho hv
    rcases hh with hlt | ⟨rfl, rfl⟩
    · exact ⟨by omega, fun e => by omega⟩
    · exact this

theorem R.mono {ρ ρ' : Rho} {A A' : Nat → Prop} {w w' : World} {v : Value} {x : AV} (h : R ρ A w v x)
    (hA : ∀ b, A b → A' b) (hw : ∀ b, A b → w'.heap[b]? = w.heap[b]?) (hρ : ∀ d ∈ x.ments, ρ' d = ρ d) : R ρ' A' w' v x :=
  h.later hA hw fun d hd o' ho' => ⟨o', by rw [← hρ d hd]; exact ho', RO.le_refl o'⟩

end Go.Proofs.Ytefbgdnobnemkaa.AM
