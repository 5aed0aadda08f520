/-
  The abstract machine: values, states, operations.
-/
import Derived.WalkKit
import Derived.Orders
import Derived.OwnWalk
set_option linter.unusedSimpArgs false
set_option linter.unusedVariables false
set_option linter.unusedSectionVars false
namespace Go.Proofs.Ytefbgdnobnemkaa.AM
open Go Go.RowKit

/-- Abstract values. Closed ones speak of memory that nobody writes; 'ptr', 'own', 'eptr' speak of the objects of the call that runs. -/
inductive AV where
  | junk
  | int (k : IntKind) (n : Int)
  | bool (b : Bool)
  | str (l : List UInt8)
  | nilsl
  | nilptr
  | slS (xs : List (List UInt8))
  | slB (bs : List UInt8)
  | slG (sz : Nat) (cells : List AV)
  | cptr (c : AV) (off : Nat)
  | agg (cells : List AV)
  | tup (vs : List AV)
  | fn (f : FuncId) (caps : List AV)
  | ptr (d off : Nat)
  | own (d n : Nat)
  | eptr (d n off : Nat)

 mutual
/-- The objects of the running call that a value mentions. -/
def AV.ments : AV → List Nat
  | .slG _ cs => mentsL cs
  | .cptr c _ => c.ments
  | .agg cs => mentsL cs
  | .tup cs => mentsL cs
  | .fn _ cs => mentsL cs
  | .ptr d _ => [d]
  | .own d _ => [d]
  | .eptr d _ _ => [d]
  | _ => []
def mentsL : List AV → List Nat
  | [] => []
  | x :: xs => x.ments ++ mentsL xs
end

theorem mem_mentsL {d : Nat} {x : AV} : ∀ {xs : List AV} {i : Nat}, xs[i]? = some x → d ∈ x.ments → d ∈ mentsL xs
  | [], i, h, _ => by simp at h
  | y :: ys, 0, h, hd => by
    simp at h; subst h; simp [mentsL, hd]
  | y :: ys, i + 1, h, hd => by
    simp at h
    have := mem_mentsL h hd
    simp [mentsL, this]

/-- The cells of what a row or a struct holds. -/
def AV.cell? : AV → Nat → Option AV
  | .slS xs, i => (xs[i]?).map AV.str
  | .slB bs, i => (bs[i]?).map fun b => .int .u8 (b.toNat : Int)
  | .slG _ cs, i => cs[i]?
  | .agg cs, i => cs[i]?
  | _, _ => none

/-- How many elements a row holds. -/
def AV.rowlen : AV → Option Nat
  | .slS xs => some xs.length
  | .slB bs => some bs.length
  | .slG sz cs => if 0 < sz ∧ cs.length = cs.length / sz * sz then some (cs.length / sz) else none
  | _ => none

def AV.esz : AV → Nat
  | .slG sz _ => sz
  | _ => 1

def AV.ncells : AV → Nat
  | .slS xs => xs.length
  | .slB bs => bs.length
  | .slG _ cs => cs.length
  | .agg cs => cs.length
  | _ => 0

/-- The cell of a number, told for the common kinds. -/
def AV.get : AV → Nat → AV
  | .slS xs, i => .str (xs.getD i [])
  | .slB bs, i => .int .u8 ((bs.getD i 0).toNat : Int)
  | .slG _ cs, i => cs.getD i .junk
  | .agg cs, i => cs.getD i .junk
  | _, _ => .junk

theorem AV.cell?_get {c : AV} {i : Nat} (h : i < c.ncells) : c.cell? i = some (c.get i) := by
  cases c <;> simp_all [AV.cell?, AV.get, AV.ncells, List.getD_eq_getElem?_getD]

theorem AV.cell?_lt {c x : AV} {i : Nat} (h : c.cell? i = some x) : i < c.ncells := by
  cases c <;> simp_all [AV.cell?, AV.ncells]
  all_goals first
    | (obtain ⟨a, h, _⟩ := h; exact (List.getElem?_eq_some_iff.1 h).1)
    | exact (List.getElem?_eq_some_iff.1 h).1

theorem AV.cell?_ments {c x : AV} {i d : Nat} (h : c.cell? i = some x) (hd : d ∈ x.ments) : d ∈ c.ments := by
  cases c <;> simp_all [AV.cell?, AV.ments]
  case slS => obtain ⟨a, _, rfl⟩ := h; simp [AV.ments] at hd
  case slB => obtain ⟨a, _, rfl⟩ := h; simp [AV.ments] at hd
  case slG => exact mem_mentsL h hd
  case agg => exact mem_mentsL h hd

/-- What stands behind an object of the running call: a variable's block; a row that may be appended to; a row as it was made. -/
inductive RO where
  | box (b : Nat)
  | row (v : Value) (len : Nat)
  | fix (b len cap : Nat)

abbrev Rho := Nat → Option RO

def RO.val? : RO → Option (Value × Nat)
  | .box _ => none
  | .row v n => some (v, n)
  | .fix b n cap => some (.slice (some ⟨b, 0, none⟩) n cap, n)

def RO.blk? : RO → Option Nat
  | .box b => some b
  | .row v _ => v.ownBlock
  | .fix b _ _ => some b

/-- A value of the model reads as an abstract one. A: the blocks that nobody writes. -/
inductive R (ρ : Rho) (A : Nat → Prop) (w : World) : Value → AV → Prop
  | junk (v : Value) : R ρ A w v .junk
  | int (k : IntKind) (n : Int) : R ρ A w (.int k n) (.int k n)
  | bool (b : Bool) : R ρ A w (.bool b) (.bool b)
  | str (l : List UInt8) : R ρ A w (.string ⟨l.toArray⟩) (.str l)
  | nilsl : R ρ A w (.slice none 0 0) .nilsl
  | nilptr : R ρ A w (.pointer none) .nilptr
  | row0 (c : AV) (h : c.rowlen = some 0) : R ρ A w (.slice none 0 0) c
  | row (b off n cap : Nat) (c : AV) (vs : Nat → Value) (hn : c.rowlen = some n) (hA : A b) (hc : n ≤ cap)
      (h1 : ∀ i x, c.cell? i = some x → w.cell? ⟨b, off + i, none⟩ = some (vs i)) (h2 : ∀ i x, c.cell? i = some x → R ρ A w (vs i) x) (h3 : ∀ i x, c.cell? i = some x → (vs i).oneCell' = true) :
      R ρ A w (.slice (some ⟨b, off, none⟩) n cap) c
  | cptr (b o0 off : Nat) (c : AV) (vs : Nat → Value) (hA : A b)
      (h1 : ∀ i x, c.cell? i = some x → w.cell? ⟨b, o0 + i, none⟩ = some (vs i)) (h2 : ∀ i x, c.cell? i = some x → R ρ A w (vs i) x) (h3 : ∀ i x, c.cell? i = some x → (vs i).oneCell' = true) :
      R ρ A w (.pointer (some ⟨b, o0 + off, none⟩)) (.cptr c off)
  | agg (cs : Array Value) (xs : List AV) (hl : cs.size = xs.length) (h : ∀ i x, xs[i]? = some x → R ρ A w (cs.getD i undef) x) (h1 : ∀ i, i < xs.length → (cs.getD i undef).oneCell' = true) : R ρ A w (.agg cs) (.agg xs)
  | tup (cs : Array Value) (xs : List AV) (hl : cs.size = xs.length) (h : ∀ i x, xs[i]? = some x → R ρ A w (cs.getD i undef) x) : R ρ A w (.tuple cs) (.tup xs)
  | fn (f : FuncId) (cs : Array Value) (xs : List AV) (hl : cs.size = xs.length) (h : ∀ i x, xs[i]? = some x → R ρ A w (cs.getD i undef) x) : R ρ A w (.func (.func f) #[] cs) (.fn f xs)
  | ptr (d off : Nat) (v : Value) (h1 : v.oneCell' = true) (h : ∀ b, ρ d = some (.box b) → v = .pointer (some ⟨b, off, none⟩)) : R ρ A w v (.ptr d off)
  | own (d n : Nat) (v : Value) (h1 : v.oneCell' = true) (h : ∀ o u len, ρ d = some o → o.val? = some (u, len) → n ≤ len ∧ (n = len → v = u)) : R ρ A w v (.own d n)
  | eptr (d n off : Nat) (v : Value) (h1 : v.oneCell' = true) (h : ∀ o u len, ρ d = some o → o.val? = some (u, len) → n ≤ len ∧ (n = len → ∀ g cap, u = .slice (some ⟨g, 0, none⟩) len cap → v = .pointer (some ⟨g, off, none⟩))) : R ρ A w v (.eptr d n off)

/-- A later state of an object: the same, or a longer row. -/
structure RO.le (o o' : RO) : Prop where
  box : ∀ b, o' = .box b → o = .box b
  val : ∀ u' n', o'.val? = some (u', n') → ∃ u n, o.val? = some (u, n) ∧ (n < n' ∨ (n = n' ∧ u = u'))

theorem RO.le_refl (o : RO) : o.le o := ⟨fun _ h => h, fun u n h => ⟨u, n, h, .inr ⟨rfl, rfl⟩⟩⟩

/-- What reads so goes on reading so, where the blocks that nobody writes stay, and objects that are mentioned stay or grow. -/
theorem R.later {ρ ρ' : Rho} {A A' : Nat → Prop} {w w' : World} {v : Value} {x : AV} (h : R ρ A w v x)
    (hA : ∀ b, A b → A' b) (hw : ∀ b, A b → w'.heap[b]? = w.heap[b]?) (hρ : ∀ d ∈ x.ments, ∀ o', ρ' d = some o' → ∃ o, ρ d = some o ∧ o.le o') : R ρ' A' w' v x := by
  induction h with
  | junk v => exact .junk v
  | int k n => exact .int k n
  | bool b => exact .bool b
  | str l => exact .str l
  | nilsl => exact .nilsl
  | nilptr => exact .nilptr
  | row0 c h => exact .row0 c h
  | row b off n cap c vs hn hAb hc h1 h2 h3 ih =>
    refine .row b off n cap c vs hn (hA b hAb) hc (fun i x hx => ?_) (fun i x hx => ih i x hx fun d hd => hρ d (AV.cell?_ments hx hd)) h3
    rw [World.cell?_of_block (w := w) (hw b hAb)]; exact h1 i x hx
  | cptr b o0 off c vs hAb h1 h2 h3 ih =>
    refine .cptr b o0 off c vs (hA b hAb) (fun i x hx => ?_) (fun i x hx => ih i x hx fun d hd => hρ d (by simpa [AV.ments] using AV.cell?_ments hx hd)) h3
    rw [World.cell?_of_block (w := w) (hw b hAb)]; exact h1 i x hx
  | agg cs xs hl h h1 ih => exact .agg cs xs hl (fun i x hx => ih i x hx fun d hd => hρ d (by simpa [AV.ments] using mem_mentsL hx hd)) h1
  | tup cs xs hl h ih => exact .tup cs xs hl fun i x hx => ih i x hx fun d hd => hρ d (by simpa [AV.ments] using mem_mentsL hx hd)
  | fn f cs xs hl h ih => exact .fn f cs xs hl fun i x hx => ih i x hx fun d hd => hρ d (by simpa [AV.ments] using mem_mentsL hx hd)
  | ptr d off v h1 h =>
    refine .ptr d off v h1 fun b hb => ?_
    obtain ⟨o, ho, hle⟩ := hρ d (by simp [AV.ments]) _ hb
    exact h b (by rw [ho, hle.box b rfl])
  | own d n v h1 h =>
    refine .own d n v h1 fun o' u' len' ho' hv' => ?_
    obtain ⟨o, ho, hle⟩ := hρ d (by simp [AV.ments]) _ ho'
    obtain ⟨u, len, hv, hh⟩ := hle.val u' len' hv'
    have := h o u len ho hv
    rcases hh with hlt | ⟨rfl, rfl⟩
    · exact ⟨by omega, fun e => by omega⟩
    · exact this
  | eptr d n off v h1 h =>
    refine .eptr d n off v h1 fun o' u' len' ho' hv' => ?_
    obtain ⟨o, ho, hle⟩ := hρ d (by simp [AV.ments]) _ ho'
    obtain ⟨u, len, hv, hh⟩ := hle.val u' len' hv'
    have := h o u len ho hv
    rcases hh with hlt | ⟨rfl, rfl⟩
    · exact ⟨by omega, fun e => by omega⟩
    · exact this

theorem R.mono {ρ ρ' : Rho} {A A' : Nat → Prop} {w w' : World} {v : Value} {x : AV} (h : R ρ A w v x)
    (hA : ∀ b, A b → A' b) (hw : ∀ b, A b → w'.heap[b]? = w.heap[b]?) (hρ : ∀ d ∈ x.ments, ρ' d = ρ d) : R ρ' A' w' v x :=
  h.later hA hw fun d hd o' ho' => ⟨o', by rw [← hρ d hd]; exact ho', RO.le_refl o'⟩

end Go.Proofs.Ytefbgdnobnemkaa.AM

namespace Go.Proofs.Ytefbgdnobnemkaa.AM
open Go Go.RowKit

/-- A constant. -/
def absV : Value → AV
  | .int k n => .int k n
  | .bool b => .bool b
  | .string s => .str s.data.toList
  | .slice none 0 0 => .nilsl
  | .pointer none => .nilptr
  | _ => .junk

theorem absV_R (ρ : Rho) (A : Nat → Prop) (w : World) (v : Value) : R ρ A w v (absV v) := by
  unfold absV
  split
  · exact .int _ _
  · exact .bool _
  · rename_i s; exact .str s.data.toList
  · exact .nilsl
  · exact .nilptr
  · exact .junk _

/-- An object of the running call: may it be written, what it holds, its elements' type. -/
structure Obj where
  wr : Bool
  app : Bool
  c : AV
  e : TypeId

structure AState where
  tmps : List AV
  objs : List (Option Obj)

def AState.obj (s : AState) (d : Nat) : Option Obj := s.objs.getD d none

def AState.ev (s : AState) : Operand → AV
  | .tmp t => s.tmps.getD t .junk
  | .const v => absV v
  | .global _ => .junk
  | .func f => .fn f []

def AState.put (s : AState) (d : Option Nat) (x : AV) : AState :=
  match d with
  | some d => { s with tmps := s.tmps.set d x }
  | none => s

def AState.upd (s : AState) (d : Nat) (o : Option Obj) : AState := { s with objs := s.objs.set d o }

/-- Kinds of types. -/
inductive TK where
  | int (k : IntKind)
  | bool
  | str
  | slice (e : TypeId)
  | struct
  | array (n : Nat) (e : TypeId)
  | ptr
  | func
  | other

structure TI where
  k : TK
  size : Nat
  bytes : Nat
  zero : List AV
  flds : List (Nat × TypeId × Nat)

def TI.isAgg (t : TI) : Bool := match t.k with | .struct => true | .array _ _ => true | _ => false

abbrev Tab := TypeId → Option TI

/-- What the table says of a type is so in the program. -/
def TKok (P : Program) (d : TypeDesc) (ti : TI) : Prop :=
  match ti.k with
  | .int k => d = .int k
  | .bool => d = .bool
  | .str => d = .string
  | .slice e => d = .slice e
  | .struct => ∃ fs : Array Field, d = .struct fs ∧ fs.toList.mapM (fun f => (P.info? f.type).map fun i => (f.offset, i.size)) = some (ti.flds.map fun f => (f.1, f.2.2)) ∧ fs.toList.map (fun f => (f.offset, f.type)) = ti.flds.map fun f => (f.1, f.2.1)
  | .array n e => d = .array n e
  | .ptr => ∃ e, d = .pointer e
  | .func => ∃ p r v, d = .func p r v
  | .other => False

theorem mapM_getElem? {α β : Type} {g : α → Option β} : ∀ {l : List α} {r : List β}, l.mapM g = some r → ∀ {j : Nat} {x : α}, l[j]? = some x → ∃ y, r[j]? = some y ∧ g x = some y
  | [], r, h, j, x, hx => by simp at hx
  | a :: l, r, h, j, x, hx => by
    simp only [List.mapM_cons, Option.bind_eq_bind, Option.pure_def] at h
    cases ha : g a with
    | none => simp [ha] at h
    | some b =>
      cases hl : l.mapM g with
      | none => simp [ha, hl] at h
      | some q =>
        simp [ha, hl] at h
        subst h
        cases j with
        | zero => simp at hx; subst hx; exact ⟨b, rfl, ha⟩
        | succ j =>
          simp at hx
          obtain ⟨y, hy, hg⟩ := mapM_getElem? hl hx
          exact ⟨y, by simpa using hy, hg⟩

/-- A field: where it is, its type, its size. -/
theorem TKok.field {P : Program} {fs : Array Field} {ti : TI} (h1 : fs.toList.mapM (fun f => (P.info? f.type).map fun i => (f.offset, i.size)) = some (ti.flds.map fun f => (f.1, f.2.2))) (h2 : fs.toList.map (fun f => (f.offset, f.type)) = ti.flds.map fun f => (f.1, f.2.1))
    {j off sz : Nat} {ft : TypeId} (h : ti.flds[j]? = some (off, ft, sz)) : ∃ f : Field, fs[j]? = some f ∧ f.offset = off ∧ f.type = ft ∧ ∃ i, P.info? ft = some i ∧ i.size = sz := by
  have h3 : (ti.flds.map fun f => (f.1, f.2.1))[j]? = some (off, ft) := by simp [h]
  rw [← h2, List.getElem?_map, Option.map_eq_some_iff] at h3
  obtain ⟨f, hf, hh⟩ := h3
  simp only [Prod.mk.injEq] at hh
  obtain ⟨rfl, rfl⟩ := hh
  obtain ⟨y, hy, hg⟩ := mapM_getElem? h1 hf
  rw [List.getElem?_map, h] at hy
  simp only [Option.map_some, Option.some.injEq] at hy
  subst hy
  rw [Option.map_eq_some_iff] at hg
  obtain ⟨i, hi, hh⟩ := hg
  simp only [Prod.mk.injEq] at hh
  exact ⟨f, by simpa using hf, rfl, rfl, i, hi, hh.2⟩

structure TIok (P : Program) (t : TypeId) (ti : TI) : Prop where
  info : ∃ i z, P.info? t = some i ∧ i.size = ti.size ∧ i.bytes = ti.bytes ∧ i.zero = some z ∧ z.cells.size = ti.size ∧ ti.zero.length = ti.size ∧
    ∀ ρ A w j x, ti.zero[j]? = some x → R ρ A w (z.cells.getD j undef) x ∧ (z.cells.getD j undef).oneCell' = true
  und : ∃ d, P.underlying t = some d ∧ TKok P d ti
  pos : 0 < ti.size
  sz1 : ti.k = .str → ti.size = 1
  zm : ∀ (i : Nat) (x : AV), ti.zero[i]? = some x → x.ments = []

def TabOk (P : Program) (tab : Tab) : Prop := ∀ t ti, tab t = some ti → TIok P t ti

/-- An object's cells as they lie in the world. -/
def ObjOk (ρ : Rho) (A : Nat → Prop) (B0 : Nat) (w : World) (ob : Obj) : RO → Prop
  | .box b => ob.c.rowlen = none ∧ B0 ≤ b ∧ b < w.heap.size ∧ (ob.wr = true → ¬ A b) ∧ (ob.wr = false → A b) ∧
      ∀ i x, ob.c.cell? i = some x → w.frozen? ⟨b, i, none⟩ = false ∧ ∃ v, w.cell? ⟨b, i, none⟩ = some v ∧ v.oneCell' = true ∧ R ρ A w v x
  | .fix b n cap => ob.app = false ∧ n ≤ cap ∧ ob.c.rowlen = some n ∧ B0 ≤ b ∧ b < w.heap.size ∧ (ob.wr = true → ¬ A b) ∧ (ob.wr = false → A b) ∧
      ∀ i x, ob.c.cell? i = some x → w.frozen? ⟨b, i, none⟩ = false ∧ ∃ v, w.cell? ⟨b, i, none⟩ = some v ∧ v.oneCell' = true ∧ R ρ A w v x
  | .row u n => ob.c.rowlen = some n ∧ (∃ vs : List Value, w.ownsRow B0 ob.e ob.c.esz u n vs ∧ ∀ i x, ob.c.cell? i = some x → ∃ v, vs[i]? = some v ∧ v.oneCell' = true ∧ R ρ A w v x) ∧
      ∀ b, u.ownBlock = some b → b < w.heap.size ∧ (ob.wr = true → ¬ A b) ∧ (ob.wr = false → A b)

/-- The model's state is told by the abstract one. B0, w0: the heap's size and the world when the call began. -/
structure St (w0 : World) (A0 A : Nat → Prop) (ρ : Rho) (s : AState) (a : Act) (w : World) : Prop where
  defers : a.defers = []
  len : a.tmps.size = s.tmps.length
  tmps : ∀ i, R ρ A w (a.tmps.getD i undef) (s.tmps.getD i .junk)
  below : Below w0.heap.size w0 w
  bound : ∀ b, A b → b < w.heap.size
  orig : ∀ b, A b → A0 b ∨ w0.heap.size ≤ b
  keep : ∀ b, A0 b → A b
  rbound : ∀ d o b, ρ d = some o → o.blk? = some b → b < w.heap.size
  inj : ∀ d d' o o' b, ρ d = some o → ρ d' = some o' → o.blk? = some b → o'.blk? = some b → d = d'
  objs : ∀ d, match s.obj d with
    | none => True
    | some ob => ∃ o, ρ d = some o ∧ ObjOk ρ A w0.heap.size w ob o

theorem St.ev {w0 : World} {A0 A : Nat → Prop} {ρ : Rho} {s : AState} {a : Act} {w : World} (h : St w0 A0 A ρ s a w) (x : Operand) : R ρ A w (a.eval x) (s.ev x) := by
  cases x with
  | tmp t => exact h.tmps t
  | const v => exact absV_R _ _ _ v
  | global g => exact .junk _
  | func f => exact .fn f #[] [] rfl (by simp)

theorem getD_set {α : Type} (l : List α) (d i : Nat) (x y : α) : (l.set d x).getD i y = if d = i ∧ d < l.length then x else l.getD i y := by
  simp only [List.getD_eq_getElem?_getD, List.getElem?_set]
  by_cases h : d = i
  · subst h
    by_cases h2 : d < l.length
    · simp [h2]
    · simp [h2]
  · simp [h]

theorem getD_setA {α : Type} (l : Array α) (d i : Nat) (x y : α) : (l.setIfInBounds d x).getD i y = if d = i ∧ d < l.size then x else l.getD i y := by
  simp only [Array.getD_eq_getD_getElem?, Array.getElem?_setIfInBounds]
  by_cases h : d = i
  · subst h
    by_cases h2 : d < l.size
    · simp [h2]
    · simp [h2]
  · simp [h]

/-- A value is put into a slot. -/
theorem St.put {w0 : World} {A0 A : Nat → Prop} {ρ : Rho} {s : AState} {a : Act} {w : World} (h : St w0 A0 A ρ s a w) (d : Option Nat) {v : Value} {x : AV} (hv : R ρ A w v x) :
    St w0 A0 A ρ (s.put d x) (a.put d v) w := by
  cases d with
  | none => exact h
  | some d =>
    refine ⟨h.defers, by simp [Act.put, AState.put, h.len], fun i => ?_, h.below, h.bound, h.orig, h.keep, h.rbound, h.inj, h.objs⟩
    simp only [Act.put, AState.put, getD_set, getD_setA, h.len]
    split
    · exact hv
    · exact h.tmps i

/-- What is in no slot and in no object. -/
def AState.fresh (s : AState) (d : Nat) : Prop := (∀ i, d ∉ (s.tmps.getD i .junk).ments) ∧ ∀ d' ob, d' ≠ d → s.obj d' = some ob → d ∉ ob.c.ments

def freshB (s : AState) (d : Nat) : Bool :=
  s.tmps.all (fun x => !x.ments.contains d) && s.objs.all fun o => match o with | none => true | some ob => !ob.c.ments.contains d

theorem fresh_of {s : AState} {d : Nat} (h : freshB s d = true) : s.fresh d := by
  simp only [freshB, Bool.and_eq_true, List.all_eq_true, Bool.not_eq_true', List.contains_eq_mem, decide_eq_false_iff_not] at h
  refine ⟨fun i => ?_, fun d' ob _ ho => ?_⟩
  · rcases Nat.lt_or_ge i s.tmps.length with hi | hi
    · rw [List.getD_eq_getElem?_getD, List.getElem?_eq_getElem hi]; exact h.1 _ (List.getElem_mem hi)
    · simp [List.getD_eq_getElem?_getD, List.getElem?_eq_none hi, AV.ments]
  · unfold AState.obj at ho
    rcases Nat.lt_or_ge d' s.objs.length with hi | hi
    · rw [List.getD_eq_getElem?_getD, List.getElem?_eq_getElem hi] at ho
      have := h.2 _ (List.getElem_mem hi)
      simp only [Option.getD_some] at ho
      rw [ho] at this
      simpa using this
    · simp [List.getD_eq_getElem?_getD, List.getElem?_eq_none hi] at ho

end Go.Proofs.Ytefbgdnobnemkaa.AM

namespace Go.Proofs.Ytefbgdnobnemkaa.AM
open Go Go.RowKit

/-- The numbers of a kind. -/
def inK : IntKind → Int → Prop
  | .i64, n => -9223372036854775808 ≤ n ∧ n ≤ 9223372036854775807
  | .i32, n => -2147483648 ≤ n ∧ n ≤ 2147483647
  | .i16, n => -32768 ≤ n ∧ n ≤ 32767
  | .i8, n => -128 ≤ n ∧ n ≤ 127
  | .u8, n => 0 ≤ n ∧ n ≤ 255
  | .u16, n => 0 ≤ n ∧ n ≤ 65535
  | .u32, n => 0 ≤ n ∧ n ≤ 4294967295
  | .u64, n => 0 ≤ n ∧ n ≤ 18446744073709551615

theorem wrap_inK {k : IntKind} {n : Int} (h : inK k n) : k.wrap n = n := by
  cases k
  · exact IntWalk.i8_in n h
  · exact IntWalk.i16_in n h
  · exact IntWalk.i32_in n h
  · exact IntWalk.i64_in n h
  · exact IntWalk.u8_in n h
  · exact IntWalk.u16_in n h
  · exact IntWalk.u32_in n h
  · exact IntWalk.u64_in n h

inductive AOut where
  | val (pre : Prop) (v : AV) (upd : List (Nat × Option Obj)) (new : List Nat)
  | test (φ : Prop) (d : Decidable φ)
  | fail

def AOut.pure (v : AV) : AOut := .val True v [] []
def AOut.need (pre : Prop) (v : AV) : AOut := .val pre v [] []

/-- A value's cells. -/
def AV.cellsOf : AV → Option (List AV)
  | .agg cs => some cs
  | .junk => none
  | .tup _ => none
  | x => some [x]

def setL {α : Type} : List α → Nat → List α → List α
  | l, _, [] => l
  | l, o, x :: xs => setL (l.set o x) (o + 1) xs

/-- Cells put into what a row or a variable holds. -/
def AV.setAt : AV → Nat → List AV → Option AV
  | .agg cs, off, xs => some (.agg (setL cs off xs))
  | .slG sz cs, off, xs => some (.slG sz (setL cs off xs))
  | .slS ls, off, [.str l] => some (.slS (ls.set off l))
  | .slB bs, off, [.int .u8 n] => some (.slB (bs.set off (UInt8.ofNat n.toNat)))
  | _, _, _ => none

def AV.sub (c : AV) (off k : Nat) : List AV := (List.range k).map fun j => c.get (off + j)

def aread (ti : TI) (pre : Prop) (c : AV) (off : Nat) : AOut :=
  match ti.isAgg with
  | true => .need (pre ∧ off + ti.size ≤ c.ncells) (.agg (c.sub off ti.size))
  | false => .need (pre ∧ off < c.ncells) (c.get off)

def aload (ti : TI) (v : AV) (ob : Nat → Option Obj) : AOut :=
  match v with
  | .ptr d off => match ob d with
    | some o => match o.c with
      | .agg cs => aread ti True (.agg cs) off
      | _ => .fail
    | none => .fail
  | .cptr c off => aread ti True c off
  | .eptr d n off => match ob d with
    | some o => aread ti (o.c.rowlen = some n) o.c off
    | none => .fail
  | _ => .fail

/-- A number that is put into a row of bytes. -/
def byteOk (c : AV) (cs : List AV) : Prop :=
  match c, cs with
  | .slB _, [.int .u8 n] => 0 ≤ n ∧ n ≤ 255
  | _, _ => True

def awrite (d : Nat) (ti : TI) (pre : Prop) (o : Obj) (off : Nat) (x : AV) : AOut :=
  match o.wr, x.cellsOf with
  | true, some cs => match cs.length == ti.size, o.c.setAt off cs with
    | true, some c' => .val (pre ∧ off + cs.length ≤ o.c.ncells ∧ byteOk o.c cs) .junk [(d, some { o with c := c' })] []
    | _, _ => .fail
  | _, _ => .fail

def astore (ti : TI) (v x : AV) (ob : Nat → Option Obj) : AOut :=
  match v with
  | .ptr d off => match ob d with
    | some o => match o.c with
      | .agg _ => awrite d ti True o off x
      | _ => .fail
    | none => .fail
  | .eptr d n off => match ob d with
    | some o => awrite d ti (o.c.rowlen = some n) o off x
    | none => .fail
  | _ => .fail

/-- Is it a variable? -/
def isBox (ob : Nat → Option Obj) (d : Nat) : Bool :=
  match ob d with
  | some o => match o.c with
    | .agg _ => true
    | _ => false
  | none => false

def afield (ti : TI) (v : AV) (f : Nat) (ob : Nat → Option Obj) : AOut :=
  match ti.k, ti.flds[f]? with
  | .struct, some (off, _, _ + 1) => match v with
    | .ptr d o => match isBox ob d with
      | true => .pure (.ptr d (o + off))
      | false => .fail
    | .cptr c o => .pure (.cptr c (o + off))
    | .eptr d n o => match ob d with
      | some o' => .need (o'.c.rowlen = some n ∧ 0 < n) (.eptr d n (o + off))
      | none => .fail
    | _ => .fail
  | _, _ => .fail

def mulSz (i sz : Nat) : Nat := match sz with | 1 => i | _ => i * sz

def aindexAddr (ti : TI) (esz : Nat) (v i : AV) (ob : Nat → Option Obj) : AOut :=
  match i with
  | .int _ n => match ti.k, v with
    | .slice _, .own d m => match ob d with
      | some o => match o.c.esz == esz with
        | true => .need (o.c.rowlen = some m ∧ 0 ≤ n ∧ n < (m : Int)) (.eptr d m (mulSz n.toNat esz))
        | false => .fail
      | none => .fail
    | .slice _, .slS xs => match esz with
      | 1 => .need (0 ≤ n ∧ n < (xs.length : Int)) (.cptr (.slS xs) n.toNat)
      | _ => .fail
    | .slice _, .slB xs => match esz with
      | 1 => .need (0 ≤ n ∧ n < (xs.length : Int)) (.cptr (.slB xs) n.toNat)
      | _ => .fail
    | .slice _, .slG sz cs => match sz == esz with
      | true => .need ((AV.slG sz cs).rowlen = some (cs.length / sz) ∧ 0 ≤ n ∧ n < ((cs.length / sz : Nat) : Int)) (.cptr (.slG sz cs) (mulSz n.toNat sz))
      | false => .fail
    | .array m _, .ptr d off => match isBox ob d with
      | true => .need (0 ≤ n ∧ n < (m : Int)) (.ptr d (off + mulSz n.toNat esz))
      | false => .fail
    | _, _ => .fail
  | _ => .fail

def aindex (ti : TI) (esz : Nat) (v i : AV) : AOut :=
  match i with
  | .int _ n => match ti.k, v with
    | .str, .str l => .need (0 ≤ n ∧ n < (l.length : Int)) (.int .u8 ((l.getD n.toNat 0).toNat : Int))
    | .array m _, .agg cs => match esz with
      | 1 => .need (0 ≤ n ∧ n < (m : Int) ∧ cs.length = m) (cs.getD n.toNat .junk)
      | _ => .fail
    | _, _ => .fail
  | _ => .fail

/-- A part of a list: from, up to. -/
def cutL {α : Type} (l : List α) : Option Nat → Option Nat → List α
  | none, none => l
  | some a, none => l.drop a
  | none, some b => l.take b
  | some a, some b => (l.take b).drop a

/-- A bound: none; some number; no number. -/
def bnd : Option AV → Option (Option Int)
  | none => some none
  | some (.int _ n) => some (some n)
  | _ => none

def cutPre (len : Nat) (lo hi : Option Int) : Prop :=
  match lo, hi with
  | none, none => True
  | some a, none => 0 ≤ a ∧ a ≤ (len : Int)
  | none, some b => 0 ≤ b ∧ b ≤ (len : Int)
  | some a, some b => 0 ≤ a ∧ a ≤ b ∧ b ≤ (len : Int)

def toN (x : Option Int) : Option Nat := x.map Int.toNat

/-- A part of a row whose elements have sz cells. -/
def AV.cut (c : AV) (lo hi : Option Nat) : AV :=
  match c with
  | .slS xs => .slS (cutL xs lo hi)
  | .slB xs => .slB (cutL xs lo hi)
  | .slG sz cs => .slG sz (cutL cs (lo.map (· * sz)) (hi.map (· * sz)))
  | c => c

def aslice (ti : TI) (esz : Nat) (v : AV) (lo hi : Option AV) (ob : Nat → Option Obj) : AOut :=
  match bnd lo, bnd hi with
  | some l, some h => match ti.k, v with
    | .str, .str s => .need (cutPre s.length l h) (.str (cutL s (toN l) (toN h)))
    | .slice _, .slS xs => match esz with
      | 1 => .need (cutPre xs.length l h) (.slS (cutL xs (toN l) (toN h)))
      | _ => .fail
    | .slice _, .slB xs => match esz with
      | 1 => .need (cutPre xs.length l h) (.slB (cutL xs (toN l) (toN h)))
      | _ => .fail
    | .slice _, .slG sz cs => match sz == esz with
      | true => .need ((AV.slG sz cs).rowlen = some (cs.length / sz) ∧ cutPre (cs.length / sz) l h) ((AV.slG sz cs).cut (toN l) (toN h))
      | false => .fail
    | .slice _, .nilsl => .need (cutPre 0 l h) .nilsl
    | .slice _, .own d m => match ob d with
      | some o => match o.c with
        | .slS xs => match esz with
          | 1 => .val (xs.length = m ∧ cutPre m l h) (.slS (cutL xs (toN l) (toN h))) [(d, some { o with wr := false })] []
          | _ => .fail
        | _ => .fail
      | none => .fail
    | _, _ => .fail
  | _, _ => .fail

def alen (v : AV) : AOut :=
  match v with
  | .str l => .pure (.int .i64 (l.length : Int))
  | .slS l => .pure (.int .i64 (l.length : Int))
  | .slB l => .pure (.int .i64 (l.length : Int))
  | .slG sz cs => .need ((AV.slG sz cs).rowlen = some (cs.length / sz)) (.int .i64 ((cs.length / sz : Nat) : Int))
  | .nilsl => .pure (.int .i64 0)
  | _ => .fail

def alenO (v : AV) (ob : Nat → Option Obj) : AOut :=
  match v with
  | .own d n => match ob d with
    | some o => .need (o.c.rowlen = some n) (.int .i64 (n : Int))
    | none => .fail
  | v => alen v

/-- Numbers. -/
def aint (op : BinOp) (k : IntKind) (a b : Int) : AOut :=
  match op with
  | .add => .need (inK k (a + b)) (.int k (a + b))
  | .sub => .need (inK k (a - b)) (.int k (a - b))
  | .mul => .need (inK k (a * b)) (.int k (a * b))
  | .quo => .need (b ≠ 0 ∧ inK k (a.tdiv b)) (.int k (a.tdiv b))
  | .rem => .need (b ≠ 0) (.int k (a.tmod b))
  | .eql => .test (a = b) inferInstance
  | .neq => .test (a ≠ b) inferInstance
  | .lss => .test (a < b) inferInstance
  | .leq => .test (a ≤ b) inferInstance
  | .gtr => .test (b < a) inferInstance
  | .geq => .test (b ≤ a) inferInstance
  | _ => .fail

def abin (eq2 : TypeId → Bool) (isb : Bool) (op : BinOp) (t : TypeId) (x y : AV) : AOut :=
  match x, y with
  | .int k a, .int k' b => match decide (k = k') with
    | true => aint op k a b
    | false => .fail
  | .str a, .str b => match op with
    | .add => .need (a.length + b.length ≤ 9223372036854775807) (.str (a ++ b))
    | .eql => .test (a = b) inferInstance
    | .neq => .test (a ≠ b) inferInstance
    | _ => .fail
  | .bool a, .bool b => match op, isb with
    | .eql, true => .test (a = b) inferInstance
    | .neq, true => .test (a ≠ b) inferInstance
    | _, _ => .fail
  | .agg [.int .i64 a, .int .i64 b], .agg [.int .i64 c, .int .i64 d] => match op, eq2 t with
    | .eql, true => .test (a = c ∧ b = d) inferInstance
    | .neq, true => .test (¬ (a = c ∧ b = d)) inferInstance
    | _, _ => .fail
  | _, _ => .fail

def aun (op : UnOp) (x : AV) : AOut :=
  match op, x with
  | .not, .bool b => .pure (.bool (!b))
  | _, _ => .fail

/-- The content of what is appended, and how many elements. -/
def acont (v : AV) (ob : Nat → Option Obj) : Option (Prop × Option AV) :=
  match v with
  | .nilsl => some (True, none)
  | .slS xs => some (True, some (.slS xs))
  | .slB xs => some (True, some (.slB xs))
  | .slG sz cs => some ((AV.slG sz cs).rowlen = some (cs.length / sz), some (.slG sz cs))
  | .own d n => match ob d with
    | some o => some (o.c.rowlen = some n, some o.c)
    | none => none
  | _ => none

def AV.rowlenD (c : AV) : Nat :=
  match c with
  | .slS xs => xs.length
  | .slB xs => xs.length
  | .slG sz cs => cs.length / sz
  | _ => 0

def AV.cat : AV → AV → Option AV
  | .slS a, .slS b => some (.slS (a ++ b))
  | .slB a, .slB b => some (.slB (a ++ b))
  | .slG sz a, .slG sz' b => match sz == sz' with
    | true => some (.slG sz (a ++ b))
    | false => none
  | _, _ => none

/-- append: onto nothing, or onto a row of the running call. -/
def aappend (e : TypeId) (esz bytes : Nat) (dst : Nat) (b x : AV) (ob : Nat → Option Obj) : AOut :=
  match b with
  | .nilsl => match acont x ob with
    | some (p, some c) => match c.esz == esz with
      | true => .val (p ∧ c.rowlenD * bytes ≤ 140737488355328) (.own dst c.rowlenD) [(dst, some { wr := true, app := true, c := c, e := e })] [dst]
      | false => .fail
    | some (p, none) => .need p .nilsl
    | none => .fail
  | .own d n => match ob d with
    | some o => match o.wr && o.app, decide (o.e = e), o.c.esz == esz, acont x ob with
      | true, true, true, some (p, some c) => match c.esz == esz, o.c.cat c with
        | true, some c' => .val (p ∧ o.c.rowlen = some n ∧ (n + c.rowlenD) * bytes ≤ 140737488355328) (.own d (n + c.rowlenD)) [(d, some { o with c := c' })] []
        | _, _ => .fail
      | true, true, true, some (p, none) => .need (p ∧ o.c.rowlen = some n) (.own d n)
      | _, _, _, _ => .fail
    | none => .fail
  | _ => .fail

end Go.Proofs.Ytefbgdnobnemkaa.AM

namespace Go.Proofs.Ytefbgdnobnemkaa.AM
open Go Go.RowKit

def Rho.set (ρ : Rho) (d : Nat) (o : RO) : Rho := fun x => if x = d then some o else ρ x

theorem Rho.set_same (ρ : Rho) (d : Nat) (o : RO) : ρ.set d o d = some o := by simp [Rho.set]
theorem Rho.set_other (ρ : Rho) {d x : Nat} (o : RO) (h : x ≠ d) : ρ.set d o x = ρ x := by simp [Rho.set, h]

theorem cell?_same {w w' : World} {b i : Nat} (h : w'.heap[b]? = w.heap[b]?) : w'.cell? ⟨b, i, none⟩ = w.cell? ⟨b, i, none⟩ := World.cell?_of_block (w := w) h
theorem frozen?_same {w w' : World} {b i : Nat} (h : w'.heap[b]? = w.heap[b]?) : w'.frozen? ⟨b, i, none⟩ = w.frozen? ⟨b, i, none⟩ := World.frozen?_of_block (w := w) h

theorem ownsRow_same {w w' : World} {B : Nat} {e : TypeId} {sz : Nat} {v : Value} {n : Nat} {xs : List Value} (h : w.ownsRow B e sz v n xs)
    (hw : ∀ b, v.ownBlock = some b → w'.heap[b]? = w.heap[b]?) : w'.ownsRow B e sz v n xs := by
  refine ⟨h.1, ?_⟩
  rcases h.2 with h | ⟨g, cap, cur, rfl, h1, h2, h3, h4, h5, h6⟩
  · exact .inl h
  · exact .inr ⟨g, cap, cur, rfl, h1, (hw g rfl).trans h2, h3, h4, h5, h6⟩

/-- An object that nobody touches stays as it was. -/
theorem ObjOk.later {ρ ρ' : Rho} {A A' : Nat → Prop} {B0 : Nat} {w w' : World} {ob : Obj} {o : RO} (h : ObjOk ρ A B0 w ob o)
    (hA : ∀ b, A b → A' b) (hAo : ∀ b, o.blk? = some b → A' b → A b) (hw : ∀ b, A b → w'.heap[b]? = w.heap[b]?) (hwo : ∀ b, o.blk? = some b → w'.heap[b]? = w.heap[b]?)
    (hs : w.heap.size ≤ w'.heap.size) (hρ : ∀ d ∈ ob.c.ments, ∀ o', ρ' d = some o' → ∃ o, ρ d = some o ∧ o.le o') : ObjOk ρ' A' B0 w' ob o := by
  cases o with
  | box b =>
    obtain ⟨h0, h1, h2, h3, h4, h5⟩ := h
    refine ⟨h0, h1, by omega, fun hw h => h3 hw (hAo b rfl h), fun h => hA b (h4 h), fun i x hx => ?_⟩
    obtain ⟨h6, v, h7, h8, h9⟩ := h5 i x hx
    exact ⟨by rw [frozen?_same (hwo b rfl)]; exact h6, v, by rw [cell?_same (hwo b rfl)]; exact h7, h8, h9.later hA hw fun d hd => hρ d (AV.cell?_ments hx hd)⟩
  | fix b n cap =>
    obtain ⟨happ, h0, h00, h1, h2, h3, h4, h5⟩ := h
    refine ⟨happ, h0, h00, h1, by omega, fun hw h => h3 hw (hAo b rfl h), fun h => hA b (h4 h), fun i x hx => ?_⟩
    obtain ⟨h6, v, h7, h8, h9⟩ := h5 i x hx
    exact ⟨by rw [frozen?_same (hwo b rfl)]; exact h6, v, by rw [cell?_same (hwo b rfl)]; exact h7, h8, h9.later hA hw fun d hd => hρ d (AV.cell?_ments hx hd)⟩
  | row u n =>
    obtain ⟨h0, ⟨vs, h1, h2⟩, h3⟩ := h
    refine ⟨h0, ⟨vs, ownsRow_same h1 hwo, fun i x hx => ?_⟩, fun b hb => ?_⟩
    · obtain ⟨v, h7, h8, h9⟩ := h2 i x hx
      exact ⟨v, h7, h8, h9.later hA hw fun d hd => hρ d (AV.cell?_ments hx hd)⟩
    · obtain ⟨h4, h5, h6⟩ := h3 b hb
      exact ⟨by omega, fun hw h => h5 hw (hAo b hb h), fun h => hA b (h6 h)⟩

theorem AState.obj_upd (s : AState) (d x : Nat) (o : Option Obj) : (s.upd d o).obj x = if d = x ∧ d < s.objs.length then o else s.obj x := by
  exact getD_set s.objs d x o none

section
variable {w0 : World} {A0 A : Nat → Prop} {ρ : Rho} {s : AState} {a : Act} {w w' : World}

/-- More memory, or a draw. -/
theorem St.grow (h : St w0 A0 A ρ s a w) (hb : Below w.heap.size w w') : St w0 A0 A ρ s a w' := by
  refine ⟨h.defers, h.len, fun i => (h.tmps i).mono (fun _ h => h) (fun b hb' => hb.block b (h.bound b hb')) (fun _ _ => rfl), h.below.trans (hb.mono h.below.size), fun b hb' => Nat.lt_of_lt_of_le (h.bound b hb') hb.size,
    h.orig, h.keep, fun d o b ho hbo => Nat.lt_of_lt_of_le (h.rbound d o b ho hbo) hb.size, h.inj, fun d => ?_⟩
  have := h.objs d
  split
  · trivial
  · rename_i ob hob
    simp only [hob] at this
    obtain ⟨o, ho, hok⟩ := this
    exact ⟨o, ho, hok.later (fun _ h => h) (fun _ _ h => h) (fun b hb' => hb.block b (h.bound b hb')) (fun b hbo => hb.block b (h.rbound d o b ho hbo)) hb.size (fun d _ o' ho' => ⟨o', ho', RO.le_refl o'⟩)⟩

/-- A new object. -/
theorem St.newobj (h : St w0 A0 A ρ s a w) {d : Nat} (hf : s.fresh d) (hb : Below w.heap.size w w') {ob : Obj} {ro : RO}
    (hblk : ∀ b, ro.blk? = some b → w.heap.size ≤ b ∧ b < w'.heap.size) (hok : ObjOk (ρ.set d ro) A w0.heap.size w' ob ro) :
    St w0 A0 A (ρ.set d ro) (s.upd d (some ob)) a w' := by
  have h' := h.grow hb
  refine ⟨h.defers, h.len, fun i => (h'.tmps i).mono (fun _ h => h) (fun _ _ => rfl) (fun x hx => Rho.set_other ρ ro (fun e => hf.1 i (e ▸ hx))), h'.below, h'.bound, h.orig, h.keep, fun x o b ho hbo => ?_, fun x x' o o' b ho ho' hbo hbo' => ?_, fun x => ?_⟩
  · by_cases hx : x = d
    · subst hx; rw [Rho.set_same] at ho; cases ho; exact (hblk b hbo).2
    · rw [Rho.set_other ρ ro hx] at ho; exact h'.rbound x o b ho hbo
  · by_cases hx : x = d
    · subst hx
      rw [Rho.set_same] at ho; cases ho
      by_cases hx' : x' = x
      · exact hx'.symm
      · rw [Rho.set_other ρ ro hx'] at ho'
        have := h.rbound x' o' b ho' hbo'
        have := (hblk b hbo).1
        omega
    · rw [Rho.set_other ρ ro hx] at ho
      by_cases hx' : x' = d
      · subst hx'
        rw [Rho.set_same] at ho'; cases ho'
        have := h.rbound x o b ho hbo
        have := (hblk b hbo').1
        omega
      · rw [Rho.set_other ρ ro hx'] at ho'
        exact h.inj x x' o o' b ho ho' hbo hbo'
  · rw [AState.obj_upd]
    by_cases hx : d = x
    · subst hx
      by_cases hl : d < s.objs.length
      · simp only [hl, and_self, if_true]; exact ⟨ro, Rho.set_same _ _ _, hok⟩
      · have : s.obj d = none := by simp [AState.obj, List.getD_eq_getElem?_getD, List.getElem?_eq_none (Nat.le_of_not_lt hl)]
        simp [hl, this]
    · simp only [hx, false_and, if_false]
      have := h'.objs x
      split
      · trivial
      · rename_i ob' hob'
        simp only [hob'] at this
        obtain ⟨o, ho, hok'⟩ := this
        refine ⟨o, by rw [Rho.set_other ρ ro (Ne.symm hx)]; exact ho, hok'.later (fun _ h => h) (fun _ _ h => h) (fun _ _ => rfl) (fun _ _ => rfl) (Nat.le_refl _) (fun y hy o' ho' => ⟨o', ?_, RO.le_refl o'⟩)⟩
        rw [Rho.set_other ρ ro (x := y) (fun e => hf.2 x ob' (Ne.symm hx) hob' (by rw [← e]; exact hy))] at ho'
        exact ho'

/-- An object of the running call turns: it is written, or it grows. -/
theorem St.reobj (h : St w0 A0 A ρ s a w) {d : Nat} {ro ro' : RO} {ob' : Obj} (hρ : ρ d = some ro) (hle : ro.le ro')
    (hbl : Below w0.heap.size w w') (hsame : ∀ k, k < w.heap.size → ro.blk? ≠ some k → w'.heap[k]? = w.heap[k]?) (hnA : ∀ b, ro.blk? = some b → ¬ A b)
    (hblk : ∀ b, ro'.blk? = some b → b < w'.heap.size ∧ (ro.blk? = some b ∨ w.heap.size ≤ b)) (hok : ObjOk (ρ.set d ro') A w0.heap.size w' ob' ro') :
    St w0 A0 A (ρ.set d ro') (s.upd d (some ob')) a w' := by
  have hlater : ∀ y o', ρ.set d ro' y = some o' → ∃ o, ρ y = some o ∧ o.le o' := fun y o' ho' => by
    by_cases hy : y = d
    · subst hy; rw [Rho.set_same] at ho'; cases ho'; exact ⟨ro, hρ, hle⟩
    · rw [Rho.set_other ρ ro' hy] at ho'; exact ⟨o', ho', RO.le_refl o'⟩
  have hAw : ∀ b, A b → w'.heap[b]? = w.heap[b]? := fun b hb => hsame b (h.bound b hb) (fun e => hnA b e hb)
  refine ⟨h.defers, h.len, fun i => (h.tmps i).later (fun _ h => h) hAw (fun y _ => hlater y), h.below.trans hbl, fun b hb => Nat.lt_of_lt_of_le (h.bound b hb) hbl.size, h.orig, h.keep, fun x o b ho hbo => ?_, fun x x' o o' b ho ho' hbo hbo' => ?_, fun x => ?_⟩
  · by_cases hx : x = d
    · subst hx; rw [Rho.set_same] at ho; cases ho; exact (hblk b hbo).1
    · rw [Rho.set_other ρ ro' hx] at ho; exact Nat.lt_of_lt_of_le (h.rbound x o b ho hbo) hbl.size
  · by_cases hx : x = d
    · subst hx
      rw [Rho.set_same] at ho; cases ho
      by_cases hx' : x' = x
      · exact hx'.symm
      · rw [Rho.set_other ρ ro' hx'] at ho'
        rcases (hblk b hbo).2 with h1 | h1
        · exact h.inj x x' ro o' b hρ ho' h1 hbo'
        · have := h.rbound x' o' b ho' hbo'; omega
    · rw [Rho.set_other ρ ro' hx] at ho
      by_cases hx' : x' = d
      · subst hx'
        rw [Rho.set_same] at ho'; cases ho'
        rcases (hblk b hbo').2 with h1 | h1
        · exact h.inj x x' o ro b ho hρ hbo h1
        · have := h.rbound x o b ho hbo; omega
      · rw [Rho.set_other ρ ro' hx'] at ho'
        exact h.inj x x' o o' b ho ho' hbo hbo'
  · rw [AState.obj_upd]
    by_cases hx : d = x
    · subst hx
      by_cases hl : d < s.objs.length
      · simp only [hl, and_self, if_true]; exact ⟨ro', Rho.set_same _ _ _, hok⟩
      · have : s.obj d = none := by simp [AState.obj, List.getD_eq_getElem?_getD, List.getElem?_eq_none (Nat.le_of_not_lt hl)]
        simp [hl, this]
    · simp only [hx, false_and, if_false]
      have := h.objs x
      split
      · trivial
      · rename_i ob2 hob2
        simp only [hob2] at this
        obtain ⟨o, ho, hok2⟩ := this
        refine ⟨o, by rw [Rho.set_other ρ ro' (Ne.symm hx)]; exact ho, hok2.later (fun _ h => h) (fun _ _ h => h) hAw (fun b hb => ?_) hbl.size (fun y _ => hlater y)⟩
        exact hsame b (h.rbound x o b ho hb) (fun e => hx (h.inj d x ro o b hρ ho e hb))

/-- An object is written no more. -/
theorem St.freeze (h : St w0 A0 A ρ s a w) {d : Nat} {ro : RO} {ob : Obj} (hρ : ρ d = some ro) (hob : s.obj d = some ob) :
    St w0 A0 (fun b => A b ∨ ro.blk? = some b) ρ (s.upd d (some { ob with wr := false })) a w := by
  have hge : ∀ b, ro.blk? = some b → w0.heap.size ≤ b := fun b hb => by
    have := h.objs d
    simp only [hob] at this
    obtain ⟨o, ho, hok⟩ := this
    rw [hρ] at ho; cases ho
    cases ro with
    | box b' => cases hb; exact hok.2.1
    | fix b' n cap => cases hb; exact hok.2.2.2.1
    | row u n =>
      obtain ⟨_, ⟨vs, h1, _⟩, _⟩ := hok
      rcases h1.2 with ⟨rfl, _⟩ | ⟨g, cap, cur, rfl, h2, _⟩
      · cases hb
      · cases hb; exact h2
  refine ⟨h.defers, h.len, fun i => (h.tmps i).mono (fun _ h => .inl h) (fun _ _ => rfl) (fun _ _ => rfl), h.below, fun b hb => ?_, fun b hb => ?_, fun b hb => .inl (h.keep b hb), h.rbound, h.inj, fun x => ?_⟩
  · rcases hb with hb | hb
    · exact h.bound b hb
    · exact h.rbound d ro b hρ hb
  · rcases hb with hb | hb
    · exact h.orig b hb
    · exact .inr (hge b hb)
  · rw [AState.obj_upd]
    by_cases hx : d = x
    · subst hx
      have hl : d < s.objs.length := by
        rcases Nat.lt_or_ge d s.objs.length with hl | hl
        · exact hl
        · simp [AState.obj, List.getD_eq_getElem?_getD, List.getElem?_eq_none hl] at hob
      simp only [hl, and_self, if_true]
      have := h.objs d
      simp only [hob] at this
      obtain ⟨o, ho, hok⟩ := this
      rw [hρ] at ho; cases ho
      refine ⟨ro, hρ, ?_⟩
      cases ro with
      | box b =>
        obtain ⟨h0, h1, h2, h3, h4, h5⟩ := hok
        refine ⟨h0, h1, h2, fun h => (by cases h), fun _ => .inr rfl, fun i x hx => ?_⟩
        obtain ⟨h6, v, h7, h8, h9⟩ := h5 i x hx
        exact ⟨h6, v, h7, h8, h9.mono (fun _ h => .inl h) (fun _ _ => rfl) (fun _ _ => rfl)⟩
      | fix b n cap =>
        obtain ⟨happ, h0, h00, h1, h2, h3, h4, h5⟩ := hok
        refine ⟨happ, h0, h00, h1, h2, fun h => (by cases h), fun _ => .inr rfl, fun i x hx => ?_⟩
        obtain ⟨h6, v, h7, h8, h9⟩ := h5 i x hx
        exact ⟨h6, v, h7, h8, h9.mono (fun _ h => .inl h) (fun _ _ => rfl) (fun _ _ => rfl)⟩
      | row u n =>
        obtain ⟨h0, ⟨vs, h1, h2⟩, h3⟩ := hok
        refine ⟨h0, ⟨vs, h1, fun i x hx => ?_⟩, fun b hb => ?_⟩
        · obtain ⟨v, h7, h8, h9⟩ := h2 i x hx
          exact ⟨v, h7, h8, h9.mono (fun _ h => .inl h) (fun _ _ => rfl) (fun _ _ => rfl)⟩
        · exact ⟨(h3 b hb).1, fun h => (by cases h), fun _ => .inr hb⟩
    · simp only [hx, false_and, if_false]
      have := h.objs x
      split
      · trivial
      · rename_i ob2 hob2
        simp only [hob2] at this
        obtain ⟨o, ho, hok2⟩ := this
        refine ⟨o, ho, hok2.later (fun _ h => .inl h) (fun b hb hA => ?_) (fun _ _ => rfl) (fun _ _ => rfl) (Nat.le_refl _) (fun y _ o' ho' => ⟨o', ho', RO.le_refl o'⟩)⟩
        rcases hA with hA | hA
        · exact hA
        · exact absurd (h.inj d x ro o b hρ ho hA hb) hx

end
end Go.Proofs.Ytefbgdnobnemkaa.AM

namespace Go.Proofs.Ytefbgdnobnemkaa.AM
open Go Go.RowKit

def toSs : List AV → Option (List (List UInt8))
  | [] => some []
  | .str l :: r => (toSs r).map (l :: ·)
  | _ => none

def toBs : List AV → Option (List UInt8)
  | [] => some []
  | .int .u8 n :: r => (toBs r).map (UInt8.ofNat n.toNat :: ·)
  | _ => none

/-- A row made of cells. -/
def toRow (k : TK) (sz : Nat) (cells : List AV) : Option AV :=
  match k with
  | .str => (toSs cells).map .slS
  | _ => match sz with
    | 0 => none
    | _ + 1 => some (.slG sz cells)

/-- The parts of a composite, put in one by one: where a part goes, and its size. -/
def afill (place : Nat → Option (Nat × Nat)) : List AV → List (Nat × AV) → Option (List AV)
  | cells, [] => some cells
  | cells, (i, x) :: rest => match place i, x.cellsOf with
    | some (off, sz), some cs => match cs.length == sz, Nat.ble (off + cs.length) cells.length with
      | true, true => afill place (setL cells off cs) rest
      | _, _ => none
    | _, _ => none

def abuild (tab : Tab) (t : TypeId) (parts : List (Nat × AV)) : AOut :=
  match tab t with
  | some ti => match ti.k with
    | .struct => match afill (fun i => (ti.flds[i]?).map fun f => (f.1, f.2.2)) ti.zero parts with
      | some cells => .pure (.agg cells)
      | none => .fail
    | .array _ e => match tab e with
      | some ei => match afill (fun i => some (i * ei.size, ei.size)) ti.zero parts with
        | some cells => .pure (.agg cells)
        | none => .fail
      | none => .fail
    | _ => .fail
  | none => .fail

def abuildSlice (tab : Tab) (dst : Option Nat) (t : TypeId) (len : Nat) (parts : List (Nat × AV)) : AOut :=
  match tab t, dst with
  | some ti, some d => match ti.k with
    | .slice e => match tab e with
      | some ei => match Nat.ble 1 ei.size, Nat.ble (len * ei.size) 4096, afill (fun i => some (i * ei.size, ei.size)) ((List.range (len * ei.size)).map fun i => ei.zero.getD (i % ei.size) .junk) parts with
        | true, true, some cells => match toRow ei.k ei.size cells with
          | some c => .val True (.own d len) [(d, some { wr := true, app := true, c := c, e := e })] [d]
          | none => .fail
        | _, _, _ => .fail
      | none => .fail
    | _ => .fail
  | _, _ => .fail

def aconv (tab : Tab) (dst : Option Nat) (src t : TypeId) (x : AV) (ob : Nat → Option Obj) : AOut :=
  match tab src, tab t with
  | some si, some ti => match si.k, ti.k, x with
    | .int _, .int k, .int _ n => .need (inK k n) (.int k n)
    | .slice e, .str, x => match (tab e).map TI.k with
      | some (.int .u8) => match x with
        | .nilsl => .pure (.str [])
        | .slB bs => .pure (.str bs)
        | .slG 1 cs => match toBs cs with
          | some bs => .pure (.str bs)
          | none => .fail
        | .own d n => match ob d with
          | some o => match o.c with
            | .slB bs => .need (bs.length = n) (.str bs)
            | .slG 1 cs => match toBs cs with
              | some bs => .need (cs.length = n) (.str bs)
              | none => .fail
            | _ => .fail
          | none => .fail
        | _ => .fail
      | _ => .fail
    | .str, .slice e, .str l => match (tab e).map TI.k, dst with
      | some (.int .u8), some d => .val (l.length ≤ 140737488355328) (.own d l.length) [(d, some { wr := true, app := false, c := .slB l, e := e })] [d]
      | _, _ => .fail
    | _, _, _ => .fail
  | _, _ => .fail

def amakeSlice (tab : Tab) (dst : Option Nat) (t : TypeId) (l c : AV) : AOut :=
  match tab t, dst, l, c with
  | some ti, some d, .int .i64 n, .int .i64 m => match ti.k with
    | .slice e => match tab e with
      | some ei => match ei.k, ei.bytes, ei.size, ei.zero with
        | .int .u8, 1, 1, [.int .u8 (.ofNat 0)] => .val (n = m ∧ 0 ≤ n ∧ n ≤ 140737488355328) (.own d n.toNat) [(d, some { wr := true, app := true, c := .slB (List.replicate n.toNat 0), e := e })] [d]
        | _, _, _, _ => .fail
      | none => .fail
    | _ => .fail
  | _, _, _, _ => .fail

def amin (mx : Bool) : List AV → AOut
  | [.int k a, .int k' b] => match decide (k = k') with
    | true => match mx with
      | true => .pure (.int k (max a b))
      | false => .pure (.int k (min a b))
    | false => .fail
  | _ => .fail

def abuiltin (tab : Tab) (dst : Option Nat) (b : Builtin) (ts : List TypeId) (args : List AV) (ob : Nat → Option Obj) : AOut :=
  match b, ts, args with
  | .len, t :: _, x :: _ => match (tab t).map TI.k, x with
    | some .str, .str l => alen (.str l)
    | some (.slice _), .str _ => .fail
    | some (.slice _), x => alenO x ob
    | _, _ => .fail
  | .min, _, args => amin false args
  | .max, _, args => amin true args
  | .append, [t, t'], [x, y] => match t == t', tab t, dst with
    | true, some ti, some d => match ti.k with
      | .slice e => match tab e with
        | some ei => match Nat.ble 1 ei.size, Nat.ble 1 ei.bytes with
          | true, true => aappend e ei.size ei.bytes d x y ob
          | _, _ => .fail
        | none => .fail
      | _ => .fail
    | _, _, _ => .fail
  | _, _, _ => .fail

/-- An operation that calls no function of the program. -/
def aop (eq2 : TypeId → Bool) (tab : Tab) (o : Oper) (ev : Operand → AV) (ob : Nat → Option Obj) : AOut :=
  match o.op with
  | .move x => .pure (ev x)
  | .assign x => .pure (ev x)
  | .pick c x y => match ev c with
    | .bool true => .pure (ev x)
    | .bool false => .pure (ev y)
    | _ => .fail
  | .alloc t => match tab t, o.dst with
    | some ti, some d => .val True (.ptr d 0) [(d, some { wr := true, app := false, c := .agg ti.zero, e := t })] [d]
    | _, _ => .fail
  | .box t x => match (ev x).cellsOf, o.dst with
    | some cs, some d => .val True (.ptr d 0) [(d, some { wr := true, app := false, c := .agg cs, e := t })] [d]
    | _, _ => .fail
  | .build t parts => abuild tab t (parts.toList.map fun p => (p.1, ev p.2))
  | .buildSlice t len parts => abuildSlice tab o.dst t len (parts.toList.map fun p => (p.1, ev p.2))
  | .load t x => match tab t with
    | some ti => aload ti (ev x) ob
    | none => .fail
  | .store t x y => match tab t, o.dst with
    | some ti, none => astore ti (ev x) (ev y) ob
    | _, _ => .fail
  | .nilCheck x => match ev x with
    | .fn f cs => .pure (.fn f cs)
    | .cptr c off => .pure (.cptr c off)
    | .ptr d off => match isBox ob d with
      | true => .pure (.ptr d off)
      | false => .fail
    | _ => .fail
  | .binOp op t x y _ => abin eq2 (match (tab t).map TI.k with | some .bool => true | _ => false) op t (ev x) (ev y)
  | .unOp op _ x => aun op (ev x)
  | .convert src dst x => aconv tab o.dst src dst (ev x) ob
  | .makeFunc (.func f) first caps => match first.toList with
    | [] => .pure (.fn f (caps.toList.map ev))
    | _ => .fail
  | .makeSlice t l c => amakeSlice tab o.dst t (ev l) (ev c)
  | .slice t x lo hi none => match tab t with
    | some ti => match ti.k with
      | .str => aslice ti 1 (ev x) (lo.map ev) (hi.map ev) ob
      | .slice e => match tab e with
        | some ei => aslice ti ei.size (ev x) (lo.map ev) (hi.map ev) ob
        | none => .fail
      | _ => .fail
    | none => .fail
  | .fieldAddr t x f => match tab t with
    | some ti => afield ti (ev x) f ob
    | none => .fail
  | .indexAddr t x i => match tab t with
    | some ti => match ti.k with
      | .slice e => match tab e with
        | some ei => aindexAddr ti ei.size (ev x) (ev i) ob
        | none => .fail
      | .array _ e => match tab e with
        | some ei => aindexAddr ti ei.size (ev x) (ev i) ob
        | none => .fail
      | _ => .fail
    | none => .fail
  | .index t x i => match tab t with
    | some ti => match ti.k with
      | .str => aindex ti 1 (ev x) (ev i)
      | .array _ e => match tab e with
        | some ei => match ei.isAgg with
          | false => aindex ti ei.size (ev x) (ev i)
          | true => .fail
        | none => .fail
      | _ => .fail
    | none => .fail
  | .extract x i => match ev x with
    | .tup vs => match vs[i]? with
      | some v => .pure v
      | none => .fail
    | _ => .fail
  | .call c => match c.callee with
    | .builtin b => abuiltin tab o.dst b c.argTypes.toList (c.args.toList.map ev) ob
    | _ => .fail
  | _ => .fail

/-- What an abstract operation does to a state. -/
def AState.app (s : AState) (dst : Option Nat) (v : AV) (u : List (Nat × Option Obj)) : AState :=
  (u.foldl (fun s p => s.upd p.1 p.2) s).put dst v

end Go.Proofs.Ytefbgdnobnemkaa.AM

namespace Go.Proofs.Ytefbgdnobnemkaa.AM
open Go Go.RowKit

/-- The operation ends, with a value or without, and so. -/
def Goes (P : Program) (o : Oper) (a : Act) (w : World) (K : Act → World → Prop) : Prop :=
  (∃ v w', (execOp a.eval o).run P w = .ok (.value v) w' ∧ K (a.put o.dst v) w') ∨ (∃ w', (execOp a.eval o).run P w = .ok .skip w' ∧ K (a.put o.dst undef) w')

theorem Goes.wp {P : Program} {o : Oper} {a : Act} {w : World} {K : Act → World → Prop} {Q : Exit → Act → World → Prop} (h : Goes P o a w K) : o.wp P a w K Q := by
  unfold Oper.wp
  rcases h with ⟨v, w', h, hk⟩ | ⟨w', h, hk⟩
  · rw [h]; exact hk
  · rw [h]; exact hk

def Sim (w0 : World) (A0 : Nat → Prop) (s : AState) (a : Act) (w : World) : Prop := ∃ A ρ, St w0 A0 A ρ s a w

/-- The run yields this value, and leaves the world. -/
def Yields (P : Program) (w : World) (x : Sem Value) (v : Value) : Prop := x.run P w = .ok v w

section
variable {P : Program} {tab : Tab} {w0 : World} {A0 A : Nat → Prop} {ρ : Rho} {s : AState} {a : Act} {w : World} {o : Oper}

theorem goes_value (h : St w0 A0 A ρ s a w) {val : Value} {v : AV} (hr : (execOp a.eval o).run P w = .ok (.value val) w) (hv : R ρ A w val v) :
    Goes P o a w (Sim w0 A0 (s.app o.dst v [])) :=
  .inl ⟨val, w, hr, A, ρ, h.put o.dst hv⟩

theorem R.int_inv {v : Value} {k : IntKind} {n : Int} (h : R ρ A w v (.int k n)) : v = .int k n := by
  cases h <;> first | rfl | simp_all [AV.rowlen]
theorem R.bool_inv {v : Value} {b : Bool} (h : R ρ A w v (.bool b)) : v = .bool b := by
  cases h <;> first | rfl | simp_all [AV.rowlen]
theorem R.str_inv {v : Value} {l : List UInt8} (h : R ρ A w v (.str l)) : v = .string ⟨l.toArray⟩ := by
  cases h <;> first | rfl | simp_all [AV.rowlen]
theorem R.nilsl_inv {v : Value} (h : R ρ A w v .nilsl) : v = .slice none 0 0 := by
  cases h <;> first | rfl | simp_all [AV.rowlen]
theorem R.agg_inv {v : Value} {xs : List AV} (h : R ρ A w v (.agg xs)) : ∃ cs : Array Value, v = .agg cs ∧ cs.size = xs.length ∧ (∀ i x, xs[i]? = some x → R ρ A w (cs.getD i undef) x) ∧ ∀ i, i < xs.length → (cs.getD i undef).oneCell' = true := by
  cases h <;> first | (exact ⟨_, rfl, ‹_›, ‹_›, ‹_›⟩) | simp_all [AV.rowlen]
theorem R.tup_inv {v : Value} {xs : List AV} (h : R ρ A w v (.tup xs)) : ∃ cs : Array Value, v = .tuple cs ∧ cs.size = xs.length ∧ (∀ i x, xs[i]? = some x → R ρ A w (cs.getD i undef) x) := by
  cases h <;> first | (exact ⟨_, rfl, ‹_›, ‹_›⟩) | simp_all [AV.rowlen]
theorem R.fn_inv {v : Value} {f : FuncId} {xs : List AV} (h : R ρ A w v (.fn f xs)) : ∃ cs : Array Value, v = .func (.func f) #[] cs ∧ cs.size = xs.length ∧ (∀ i x, xs[i]? = some x → R ρ A w (cs.getD i undef) x) := by
  cases h <;> first | (exact ⟨_, rfl, ‹_›, ‹_›⟩) | simp_all [AV.rowlen]
theorem R.cptr_inv {v : Value} {c : AV} {off : Nat} (h : R ρ A w v (.cptr c off)) : ∃ (b o0 : Nat) (vs : Nat → Value), v = .pointer (some ⟨b, o0 + off, none⟩) ∧ A b ∧
    (∀ i x, c.cell? i = some x → w.cell? ⟨b, o0 + i, none⟩ = some (vs i)) ∧ (∀ i x, c.cell? i = some x → R ρ A w (vs i) x) ∧ (∀ i x, c.cell? i = some x → (vs i).oneCell' = true) := by
  cases h <;> first | (exact ⟨_, _, _, rfl, ‹_›, ‹_›, ‹_›, ‹_›⟩) | simp_all [AV.rowlen]
/-- A row that nobody writes. -/
theorem R.row_inv {v : Value} {c : AV} {n : Nat} (hc : c.rowlen = some n) (h : R ρ A w v c) : (v = .slice none 0 0 ∧ n = 0) ∨ ∃ (b off cap : Nat) (vs : Nat → Value), v = .slice (some ⟨b, off, none⟩) n cap ∧ A b ∧ n ≤ cap ∧
    (∀ i x, c.cell? i = some x → w.cell? ⟨b, off + i, none⟩ = some (vs i)) ∧ (∀ i x, c.cell? i = some x → R ρ A w (vs i) x) ∧ (∀ i x, c.cell? i = some x → (vs i).oneCell' = true) := by
  cases h with
  | row0 _ h => rw [hc] at h; cases h; exact .inl ⟨rfl, rfl⟩
  | row b off m cap _ vs hn hA hcap h1 h2 h3 => rw [hc] at hn; cases hn; exact .inr ⟨b, off, cap, vs, rfl, hA, hcap, h1, h2, h3⟩
  | junk => simp [AV.rowlen] at hc
  | _ => simp [AV.rowlen] at hc

theorem R.oneCell {v : Value} {x : AV} {cs : List AV} (h : R ρ A w v x) (hc : x.cellsOf = some cs) (hx : ∀ l, x ≠ .agg l) : v.oneCell' = true ∧ cs = [x] := by
  refine ⟨?_, by cases x <;> simp_all [AV.cellsOf]⟩
  cases h with
  | junk => simp [AV.cellsOf] at hc
  | tup => simp [AV.cellsOf] at hc
  | agg _ xs => exact absurd rfl (hx xs)
  | ptr _ _ _ h1 => exact h1
  | own _ _ _ h1 => exact h1
  | eptr _ _ _ _ h1 => exact h1
  | _ => rfl

/-- A value's cells read as the abstract value's cells. -/
theorem R.cells {v : Value} {x : AV} {cs : List AV} (h : R ρ A w v x) (hc : x.cellsOf = some cs) :
    v.cells.size = cs.length ∧ ∀ i y, cs[i]? = some y → (v.cells.getD i undef).oneCell' = true ∧ R ρ A w (v.cells.getD i undef) y := by
  by_cases hx : ∃ l, x = .agg l
  · obtain ⟨l, rfl⟩ := hx
    simp only [AV.cellsOf, Option.some.injEq] at hc
    subst hc
    obtain ⟨vs, rfl, h1, h2, h3⟩ := h.agg_inv
    exact ⟨h1, fun i y hy => ⟨h3 i (List.getElem?_eq_some_iff.1 hy).1, h2 i y hy⟩⟩
  · obtain ⟨h1, rfl⟩ := h.oneCell hc (fun l e => hx ⟨l, e⟩)
    have hcells : v.cells = #[v] := by cases v <;> simp_all [Value.cells, Value.oneCell']
    refine ⟨by simp [hcells], fun i y hy => ?_⟩
    have : i = 0 := by
      have := (List.getElem?_eq_some_iff.1 hy).1
      simp at this; exact this
    subst this
    simp at hy
    subst hy
    simp only [hcells]
    exact ⟨h1, h⟩

theorem ok_move {x : Operand} (ho : o.op = .move x ∨ o.op = .assign x) (h : St w0 A0 A ρ s a w) : Goes P o a w (Sim w0 A0 (s.app o.dst (s.ev x) [])) := by
  refine goes_value h (val := a.eval x) ?_ (h.ev x)
  rcases ho with ho | ho <;> simp [execOp, ho]

theorem ok_pick {c x y : Operand} {b : Bool} (ho : o.op = .pick c x y) (h : St w0 A0 A ρ s a w) (hc : s.ev c = .bool b) :
    Goes P o a w (Sim w0 A0 (s.app o.dst (if b then s.ev x else s.ev y) [])) := by
  have hb := (hc ▸ h.ev c : R ρ A w (a.eval c) (.bool b)).bool_inv
  refine goes_value h (val := if b then a.eval x else a.eval y) ?_ ?_
  · simp [execOp, ho, hb, asBool]
  · cases b
    · exact h.ev y
    · exact h.ev x

theorem ok_extract {x : Operand} {i : Nat} {vs : List AV} {v : AV} (ho : o.op = .extract x i) (h : St w0 A0 A ρ s a w) (hx : s.ev x = .tup vs) (hv : vs[i]? = some v) :
    Goes P o a w (Sim w0 A0 (s.app o.dst v [])) := by
  obtain ⟨cs, he, hl, hr⟩ := (hx ▸ h.ev x : R ρ A w (a.eval x) (.tup vs)).tup_inv
  have hi : i < cs.size := by rw [hl]; exact (List.getElem?_eq_some_iff.1 hv).1
  refine goes_value h (val := cs.getD i undef) ?_ (hr i v hv)
  simp [execOp, ho, he, Instr.extract, hi]

theorem ok_un {op : UnOp} {t : TypeId} {x : Operand} {pre : Prop} {v : AV} {u : List (Nat × Option Obj)} {n : List Nat} (ho : o.op = .unOp op t x) (h : St w0 A0 A ρ s a w)
    (hx : aun op (s.ev x) = .val pre v u n) : Goes P o a w (Sim w0 A0 (s.app o.dst v u)) := by
  unfold aun at hx
  split at hx
  · rename_i b hb
    cases hx
    have := (hb ▸ h.ev x : R ρ A w (a.eval x) (.bool b)).bool_inv
    refine goes_value h (val := .bool (!b)) ?_ (.bool _)
    simp [execOp, ho, this, Op.unary]
  · cases hx

/-- Numbers: what the model's operation gives. -/
theorem run_int_val {op : BinOp} {k : IntKind} {x y : Int} {pre : Prop} {v : AV} {u : List (Nat × Option Obj)} {n : List Nat} (t : TypeId) (hx : aint op k x y = .val pre v u n) (hp : pre) :
    u = [] ∧ ∃ val, (binOp op t (.int k x) (.int k y)).run P w = .ok val w ∧ R ρ A w val v := by
  cases op <;> simp only [aint, AOut.need, AOut.val.injEq, reduceCtorEq] at hx <;> obtain ⟨rfl, rfl, rfl, rfl⟩ := hx
  · exact ⟨rfl, _, by simp [binOp, Op.intArith, wrap_inK hp], .int _ _⟩
  · exact ⟨rfl, _, by simp [binOp, Op.intArith, wrap_inK hp], .int _ _⟩
  · exact ⟨rfl, _, by simp [binOp, Op.intArith, wrap_inK hp], .int _ _⟩
  · exact ⟨rfl, _, by simp [binOp, Op.intDiv, hp.1, wrap_inK hp.2], .int _ _⟩
  · exact ⟨rfl, _, by simp [binOp, Op.intDiv, hp], .int _ _⟩

theorem run_int_test {op : BinOp} {k : IntKind} {x y : Int} {φ : Prop} {d : Decidable φ} (t : TypeId) (hx : aint op k x y = .test φ d) :
    (binOp op t (.int k x) (.int k y)).run P w = .ok (.bool (decide φ)) w := by
  cases op <;> simp only [aint, AOut.need, AOut.test.injEq, reduceCtorEq] at hx <;> obtain ⟨rfl, hd⟩ := hx <;> cases hd
  · simp [binOp, Op.intCmp]
    by_cases h : x = y <;> simp [h]
  · simp [binOp, Op.intCmp]
    by_cases h : x = y <;> simp [h]
  · simp [binOp, Op.intCmp]
  · simp [binOp, Op.intCmp]
  · simp [binOp, Op.intCmp]
  · simp [binOp, Op.intCmp]

end
end Go.Proofs.Ytefbgdnobnemkaa.AM

namespace Go.Proofs.Ytefbgdnobnemkaa.AM
open Go Go.RowKit

/-- The types at which two structs of two ints are held against each other. -/
def Eq2Ok (P : Program) (eq2 : TypeId → Bool) : Prop := ∀ t, eq2 t = true →
  (∀ op x y u v w, (eqGuard op t x y (.agg u) (.agg v)).run P w = .ok () w) ∧
  ∀ a b c d w, (Op.equal t (.agg #[.int .i64 a, .int .i64 b]) (.agg #[.int .i64 c, .int .i64 d])).run P w = .ok (decide (a = c ∧ b = d)) w

section
variable {P : Program} {tab : Tab} {w0 : World} {A0 A : Nat → Prop} {ρ : Rho} {s : AState} {a : Act} {w : World} {o : Oper}

theorem str_toList (l : List UInt8) : (ByteArray.mk l.toArray).toList = l := by rw [ByteArray.toList_eq]

theorem guard_plain (op : BinOp) (t : TypeId) (x y : Operand) {u v : Value} (hu : u.oneCell' = true) (hn : u ≠ .nilIface) : (eqGuard op t x y u v).run P w = .ok () w := by
  cases u <;> first
    | (exfalso; simp [Value.oneCell'] at hu; done)
    | (exact absurd rfl hn)
    | (unfold eqGuard; cases op <;> rfl)

theorem run_equalIn_bool (n : Nat) {t : TypeId} (p q : Bool) (h : P.underlying t = some .bool) : (Op.equalIn (n + 1) t (.bool p) (.bool q)).run P w = .ok (p == q) w := by
  simp [Op.equalIn, run_underlying h]
theorem run_equal_bool {t : TypeId} (p q : Bool) (h : P.underlying t = some .bool) : (Op.equal t (.bool p) (.bool q)).run P w = .ok (p == q) w := run_equalIn_bool 9999 p q h

theorem exec_bin {op : BinOp} {t t' : TypeId} {x y : Operand} (ho : o.op = .binOp op t x y t') (hg : (eqGuard op t x y (a.eval x) (a.eval y)).run P w = .ok () w) {v : Value}
    (hr : (binOp op t (a.eval x) (a.eval y)).run P w = .ok v w) : (execOp a.eval o).run P w = .ok (.value v) w := by
  simp [execOp, ho, hg, hr]

theorem int2_of_R {v : Value} {p q : Int} (h : R ρ A w v (.agg [.int .i64 p, .int .i64 q])) : v = .agg #[.int .i64 p, .int .i64 q] := by
  obtain ⟨cs, rfl, hl, hr, _⟩ := h.agg_inv
  have h0 := (hr 0 _ rfl).int_inv
  have h1 := (hr 1 _ rfl).int_inv
  congr 1
  apply Array.ext'
  obtain ⟨l⟩ := cs
  simp at hl
  match l, hl with
  | [u, v], _ => simp at h0 h1; simp [h0, h1]

theorem ok_bin_val {eq2 : TypeId → Bool} {isb : Bool} {op : BinOp} {t t' : TypeId} {x y : Operand} {pre : Prop} {v : AV} {u : List (Nat × Option Obj)} {n : List Nat} (ho : o.op = .binOp op t x y t') (h : St w0 A0 A ρ s a w)
    (hx : abin eq2 isb op t (s.ev x) (s.ev y) = .val pre v u n) (hp : pre) : Goes P o a w (Sim w0 A0 (s.app o.dst v u)) := by
  unfold abin at hx
  split at hx
  · rename_i k p k' q e1 e2
    have r1 := (e1 ▸ h.ev x : R ρ A w (a.eval x) _).int_inv
    have r2 := (e2 ▸ h.ev y : R ρ A w (a.eval y) _).int_inv
    split at hx
    · rename_i hk
      have hk := of_decide_eq_true hk
      subst hk
      obtain ⟨rfl, val, hr, hR⟩ := run_int_val (P := P) (ρ := ρ) (A := A) (w := w) t hx hp
      exact goes_value h (exec_bin ho (by rw [r1]; exact guard_plain _ _ _ _ rfl (by simp)) (by rw [r1, r2]; exact hr)) hR
    · cases hx
  · rename_i p q e1 e2
    have r1 := (e1 ▸ h.ev x : R ρ A w (a.eval x) _).str_inv
    have r2 := (e2 ▸ h.ev y : R ρ A w (a.eval y) _).str_inv
    split at hx
    · cases hx
      refine goes_value h (val := .string ⟨(p ++ q).toArray⟩) (exec_bin ho (by rw [r1]; exact guard_plain _ _ _ _ rfl (by simp)) ?_) (.str _)
      rw [r1, r2]
      have hle : ¬ ((p.length + q.length : Nat) : Int) > IntKind.i64.max := by
        simp [IntKind.max, IntKind.signed, IntKind.bits]; omega
      simp [binOp, Op.stringOp, ByteArray.size, IntKind.max, IntKind.signed, IntKind.bits] at hle ⊢
      rw [if_neg (by omega)]
      simp only [Result.ok.injEq, Value.string.injEq, and_true]
      apply ByteArray.ext
      simp
    · cases hx
    · cases hx
    · cases hx
  · split at hx <;> cases hx
  · split at hx <;> cases hx
  · cases hx

theorem ok_bin_test {eq2 : TypeId → Bool} (heq : Eq2Ok P eq2) {isb : Bool} {op : BinOp} {t t' : TypeId} {x y : Operand} {φ : Prop} {d : Decidable φ} (hb : isb = true → P.underlying t = some .bool) (ho : o.op = .binOp op t x y t') (h : St w0 A0 A ρ s a w)
    (hx : abin eq2 isb op t (s.ev x) (s.ev y) = .test φ d) : Goes P o a w (Sim w0 A0 (s.app o.dst (.bool (decide φ)) [])) := by
  unfold abin at hx
  split at hx
  · rename_i k p k' q e1 e2
    have r1 := (e1 ▸ h.ev x : R ρ A w (a.eval x) _).int_inv
    have r2 := (e2 ▸ h.ev y : R ρ A w (a.eval y) _).int_inv
    split at hx
    · rename_i hk
      have hk := of_decide_eq_true hk
      subst hk
      exact goes_value h (exec_bin ho (by rw [r1]; exact guard_plain _ _ _ _ rfl (by simp)) (by rw [r1, r2]; exact run_int_test t hx)) (.bool _)
    · cases hx
  · rename_i p q e1 e2
    have r1 := (e1 ▸ h.ev x : R ρ A w (a.eval x) _).str_inv
    have r2 := (e2 ▸ h.ev y : R ρ A w (a.eval y) _).str_inv
    split at hx
    · cases hx
    · cases hx
      refine goes_value h (exec_bin ho (by rw [r1]; exact guard_plain _ _ _ _ rfl (by simp)) (v := .bool (decide (p = q))) ?_) (.bool _)
      rw [r1, r2]
      simp only [binOp, Op.stringOp, str_toList, Sem.run_pure]
      by_cases e : p = q <;> simp [e]
    · cases hx
      refine goes_value h (exec_bin ho (by rw [r1]; exact guard_plain _ _ _ _ rfl (by simp)) (v := .bool (decide (p ≠ q))) ?_) (.bool _)
      rw [r1, r2]
      simp only [binOp, Op.stringOp, str_toList, Sem.run_pure]
      by_cases e : p = q <;> simp [e]
    · cases hx
  · rename_i p q e1 e2
    have r1 := (e1 ▸ h.ev x : R ρ A w (a.eval x) _).bool_inv
    have r2 := (e2 ▸ h.ev y : R ρ A w (a.eval y) _).bool_inv
    split at hx
    · cases hx
      refine goes_value h (exec_bin ho (by rw [r1]; exact guard_plain _ _ _ _ rfl (by simp)) (v := .bool (decide (p = q))) ?_) (.bool _)
      rw [r1, r2]
      simp only [binOp, Sem.run_bind, Sem.run_pure, run_equal_bool _ _ (hb rfl), Result.andThen_ok]
      cases p <;> cases q <;> rfl
    · cases hx
      refine goes_value h (exec_bin ho (by rw [r1]; exact guard_plain _ _ _ _ rfl (by simp)) (v := .bool (decide (p ≠ q))) ?_) (.bool _)
      rw [r1, r2]
      simp only [binOp, Sem.run_bind, Sem.run_pure, run_equal_bool _ _ (hb rfl), Result.andThen_ok]
      cases p <;> cases q <;> rfl
    · cases hx
  · rename_i p q p' q' e1 e2
    have r1 := int2_of_R (e1 ▸ h.ev x : R ρ A w (a.eval x) _)
    have r2 := int2_of_R (e2 ▸ h.ev y : R ρ A w (a.eval y) _)
    split at hx
    · rename_i he
      cases hx
      refine goes_value h (exec_bin ho (by rw [r1, r2]; exact (heq t he).1 _ _ _ _ _ _) (v := .bool (decide (p = p' ∧ q = q'))) ?_) (.bool _)
      rw [r1, r2]
      simp only [binOp, Sem.run_bind, Sem.run_pure, (heq t he).2, Result.andThen_ok]
    · rename_i he
      cases hx
      refine goes_value h (exec_bin ho (by rw [r1, r2]; exact (heq t he).1 _ _ _ _ _ _) (v := .bool (decide (¬ (p = p' ∧ q = q')))) ?_) (.bool _)
      rw [r1, r2]
      simp only [binOp, Sem.run_bind, Sem.run_pure, (heq t he).2, Result.andThen_ok]
      by_cases e : p = p' ∧ q = q' <;> simp [e]
    · cases hx
  · cases hx

end
end Go.Proofs.Ytefbgdnobnemkaa.AM

namespace Go.Proofs.Ytefbgdnobnemkaa.AM
open Go Go.RowKit

section
variable {P : Program} {tab : Tab} {w0 : World} {A0 A : Nat → Prop} {ρ : Rho} {s : AState} {a : Act} {w : World} {o : Oper}

theorem run_sizeOf' {t : TypeId} {ti : TI} (h : TIok P t ti) (w : World) : (sizeOf t).run P w = .ok ti.size w := by
  obtain ⟨i, z, hi, hs, _⟩ := h.info
  simp [sizeOf, typeInfo, hi, hs]

theorem run_isAgg' {t : TypeId} {ti : TI} (h : TIok P t ti) (w : World) : (isAgg t).run P w = .ok ti.isAgg w := by
  obtain ⟨d, hd, hk⟩ := h.und
  unfold TKok at hk
  unfold TI.isAgg
  split at hk <;> simp_all
  all_goals first
    | (simp [isAgg, run_underlying hd]; done)
    | (obtain ⟨fs, rfl, _, _⟩ := hk; simp [isAgg, run_underlying hd]; done)
    | (obtain ⟨fs, rfl⟩ := hk; simp [isAgg, run_underlying hd]; done)
    | (obtain ⟨p, r, h | h⟩ := hk <;> subst h <;> simp [isAgg, run_underlying hd]; done)

/-- What the running call knows of an object. -/
theorem St.live (h : St w0 A0 A ρ s a w) {d : Nat} {ob : Obj} (hd : s.obj d = some ob) : ∃ ro, ρ d = some ro ∧ ObjOk ρ A w0.heap.size w ob ro := by
  have := h.objs d
  simpa only [hd] using this

/-- A pointer to a variable of the running call. -/
theorem R.ptr_inv {v : Value} {d off b : Nat} (h : R ρ A w v (.ptr d off)) (hd : ρ d = some (.box b)) : v = .pointer (some ⟨b, off, none⟩) := by
  cases h with
  | ptr _ _ _ h1 h2 => exact h2 b hd
  | _ => simp_all [AV.rowlen]

theorem R.own_inv {v u : Value} {d n len : Nat} {ro : RO} (h : R ρ A w v (.own d n)) (hd : ρ d = some ro) (hv : ro.val? = some (u, len)) (hn : len = n) : v = u := by
  cases h with
  | own _ _ _ h1 h2 => exact (h2 ro u len hd hv).2 hn.symm
  | _ => simp_all [AV.rowlen]

theorem R.eptr_inv {v u : Value} {d n off len g cap : Nat} {ro : RO} (h : R ρ A w v (.eptr d n off)) (hd : ρ d = some ro) (hv : ro.val? = some (u, len)) (hn : len = n) (hu : u = .slice (some ⟨g, 0, none⟩) len cap) :
    v = .pointer (some ⟨g, off, none⟩) := by
  cases h with
  | eptr _ _ _ _ h1 h2 => exact (h2 ro u len hd hv).2 hn.symm g cap hu
  | _ => simp_all [AV.rowlen]

/-- A variable of the running call. -/
theorem St.box (h : St w0 A0 A ρ s a w) {d : Nat} (hd : isBox s.obj d = true) : ∃ b ob cs, s.obj d = some ob ∧ ob.c = .agg cs ∧ ρ d = some (.box b) ∧ ObjOk ρ A w0.heap.size w ob (.box b) := by
  unfold isBox at hd
  split at hd
  · rename_i ob hob
    split at hd
    · rename_i cs hcs
      obtain ⟨ro, hro, hok⟩ := h.live hob
      cases ro with
      | box b => exact ⟨b, ob, cs, hob, hcs, hro, hok⟩
      | fix b n cap => obtain ⟨_, _, h0, _⟩ := hok; rw [hcs] at h0; simp [AV.rowlen] at h0
      | row u n => obtain ⟨h0, _⟩ := hok; rw [hcs] at h0; simp [AV.rowlen] at h0
    · cases hd
  · cases hd

/-- A row of the running call: its value, where its cells are. -/
theorem St.row (h : St w0 A0 A ρ s a w) {d n : Nat} {ob : Obj} (hd : s.obj d = some ob) (hn : ob.c.rowlen = some n) : ∃ ro u, ρ d = some ro ∧ ObjOk ρ A w0.heap.size w ob ro ∧ ro.val? = some (u, n) ∧ ((u = .slice none 0 0 ∧ n = 0) ∨ ∃ g cap, u = .slice (some ⟨g, 0, none⟩) n cap ∧ n ≤ cap ∧ ro.blk? = some g ∧
    (∀ i x, ob.c.cell? i = some x → w.frozen? ⟨g, i, none⟩ = false ∧ ∃ v, w.cell? ⟨g, i, none⟩ = some v ∧ v.oneCell' = true ∧ R ρ A w v x)) := by
  obtain ⟨ro, hro, hok⟩ := h.live hd
  cases ro with
  | box b => obtain ⟨h0, _⟩ := hok; rw [hn] at h0; cases h0
  | fix b m cap =>
    have hok' := hok
    obtain ⟨happ, h0, h00, h1, h2, h3, h4, h5⟩ := hok'
    rw [hn] at h00; cases h00
    exact ⟨_, _, hro, hok, rfl, .inr ⟨b, cap, rfl, h0, rfl, h5⟩⟩
  | row u m =>
    have hok' := hok
    obtain ⟨h0, ⟨vs, h1, h2⟩, h3⟩ := hok'
    rw [hn] at h0; cases h0
    refine ⟨_, u, hro, hok, rfl, ?_⟩
    rcases h1.2 with ⟨rfl, rfl⟩ | ⟨g, cap, cur, rfl, h4, h5, h6, h7, h8, h9⟩
    · exact .inl ⟨rfl, rfl⟩
    · refine .inr ⟨g, cap, rfl, h6, rfl, fun i x hx => ?_⟩
      obtain ⟨v, hv, hv1, hv2⟩ := h2 i x hx
      refine ⟨by simp only [World.frozen?, h5]; simp, v, ?_, hv1, hv2⟩
      have hi : i < n * ob.c.esz := by rw [← h1.1]; exact (List.getElem?_eq_some_iff.1 hv).1
      rw [← h9, List.getElem?_take_of_lt hi] at hv
      simp only [World.cell?, h5]
      simpa using hv

/-- A pointer into a row of the running call. -/
theorem St.eptr (h : St w0 A0 A ρ s a w) {d n off : Nat} {ob : Obj} {v : Value} (hd : s.obj d = some ob) (hn : ob.c.rowlen = some n) (h0 : 0 < n) (hv : R ρ A w v (.eptr d n off)) :
    ∃ ro g, ρ d = some ro ∧ ObjOk ρ A w0.heap.size w ob ro ∧ ro.blk? = some g ∧ v = .pointer (some ⟨g, off, none⟩) ∧ (∃ cap, ro.val? = some (.slice (some ⟨g, 0, none⟩) n cap, n)) ∧
    (∀ i x, ob.c.cell? i = some x → w.frozen? ⟨g, i, none⟩ = false ∧ ∃ v, w.cell? ⟨g, i, none⟩ = some v ∧ v.oneCell' = true ∧ R ρ A w v x) := by
  obtain ⟨ro, u, hro, hok, hval, hh⟩ := h.row hd hn
  rcases hh with ⟨_, rfl⟩ | ⟨g, cap, rfl, hc, hb, hcells⟩
  · omega
  · exact ⟨ro, g, hro, hok, hb, hv.eptr_inv hro hval rfl rfl, ⟨cap, hval⟩, hcells⟩

theorem ok_field {t : TypeId} {x : Operand} {f : Nat} {ti : TI} {pre : Prop} {v : AV} {u : List (Nat × Option Obj)} {n : List Nat} (hT : TabOk P tab) (ho : o.op = .fieldAddr t x f) (h : St w0 A0 A ρ s a w)
    (h1 : tab t = some ti) (hx : afield ti (s.ev x) f s.obj = .val pre v u n) (hp : pre) : Goes P o a w (Sim w0 A0 (s.app o.dst v u)) := by
  unfold afield at hx
  split at hx
  · rename_i off ft k hk h2
    obtain ⟨d, hd, hk'⟩ := (hT t ti h1).und
    unfold TKok at hk'
    rw [hk] at hk'
    obtain ⟨fs, rfl, hm1, hm2⟩ := hk'
    obtain ⟨fd, hfd, ho1, ho2, fi, hfi, hfs⟩ := TKok.field hm1 hm2 h2
    have run : ∀ (b q : Nat), a.eval x = .pointer (some ⟨b, q, none⟩) → (execOp a.eval o).run P w = .ok (.value (.pointer (some ⟨b, q + off, none⟩))) w := by
      intro b q hb
      have hz : fi.size ≠ 0 := by omega
      simp [execOp, ho, hb, Instr.fieldAt, run_underlying hd, hfd, Instr.sureAddr, fieldPlace, ho1, ho2, sizeOf, typeInfo, hfi, hz, Addr.add_lit]
    split at hx
    · rename_i d2 q hq
      split at hx
      · rename_i hb
        cases hx
        obtain ⟨b, ob, cs, hob, hcs, hro, hok⟩ := h.box hb
        have hv := R.ptr_inv (hq ▸ h.ev x : R ρ A w (a.eval x) _) hro
        exact goes_value h (run b q hv) (.ptr _ _ _ rfl fun b' hb' => by rw [hro] at hb'; cases hb'; rfl)
      · cases hx
    · rename_i c q hq
      cases hx
      obtain ⟨b, o0, vs, hv, hA, hc1, hc2, hc3⟩ := (hq ▸ h.ev x : R ρ A w (a.eval x) _).cptr_inv
      refine goes_value h (run b (o0 + q) hv) ?_
      rw [Nat.add_assoc]
      exact .cptr b o0 (q + off) c vs hA hc1 hc2 hc3
    · rename_i d2 m q hq
      split at hx
      · rename_i ob hob
        cases hx
        obtain ⟨ro, g, hro, hok, hb, hv, ⟨cap, hval⟩, hcells⟩ := h.eptr hob hp.1 hp.2 (hq ▸ h.ev x : R ρ A w (a.eval x) _)
        refine goes_value h (run g q hv) (.eptr _ _ _ _ rfl fun o' u' len' ho' hv' => ?_)
        rw [hro] at ho'; cases ho'
        rw [hval] at hv'; cases hv'
        exact ⟨Nat.le_refl _, fun _ g' cap' e => by cases e; rfl⟩
      · cases hx
    · cases hx
  · cases hx
end
end Go.Proofs.Ytefbgdnobnemkaa.AM

namespace Go.Proofs.Ytefbgdnobnemkaa.AM
open Go Go.RowKit

theorem mulSz_eq (i sz : Nat) : mulSz i sz = i * sz := by
  unfold mulSz; split <;> simp

section
variable {P : Program} {tab : Tab} {w0 : World} {A0 A : Nat → Prop} {ρ : Rho} {s : AState} {a : Act} {w : World} {o : Oper}

theorem und_slice {t e : TypeId} {ti : TI} (h : TIok P t ti) (hk : ti.k = .slice e) : P.underlying t = some (.slice e) := by
  obtain ⟨d, hd, hh⟩ := h.und
  unfold TKok at hh; rw [hk] at hh; rw [hd, hh]
theorem und_array {t e : TypeId} {n : Nat} {ti : TI} (h : TIok P t ti) (hk : ti.k = .array n e) : P.underlying t = some (.array n e) := by
  obtain ⟨d, hd, hh⟩ := h.und
  unfold TKok at hh; rw [hk] at hh; rw [hd, hh]
theorem und_str {t : TypeId} {ti : TI} (h : TIok P t ti) (hk : ti.k = .str) : P.underlying t = some .string := by
  obtain ⟨d, hd, hh⟩ := h.und
  unfold TKok at hh; rw [hk] at hh; rw [hd, hh]
theorem und_int {t : TypeId} {ti : TI} {k : IntKind} (h : TIok P t ti) (hk : ti.k = .int k) : P.underlying t = some (.int k) := by
  obtain ⟨d, hd, hh⟩ := h.und
  unfold TKok at hh; rw [hk] at hh; rw [hd, hh]
theorem und_bool {t : TypeId} {ti : TI} (h : TIok P t ti) (hk : ti.k = .bool) : P.underlying t = some .bool := by
  obtain ⟨d, hd, hh⟩ := h.und
  unfold TKok at hh; rw [hk] at hh; rw [hd, hh]

theorem run_indexAt_sl {t e : TypeId} {esz b off len cap : Nat} {k : IntKind} {i : Int} (hu : P.underlying t = some (.slice e)) (hs : ∀ w, (sizeOf e).run P w = .ok esz w) (h0 : 0 ≤ i) (h1 : i < (len : Int)) :
    (Instr.indexAt t (.slice (some ⟨b, off, none⟩) len cap) (.int k i)).run P w = .ok (.pointer (some ⟨b, off + i.toNat * esz, none⟩)) w := by
  simp [Instr.indexAt, run_underlying hu, asIntOf, h0, h1, hs, Addr.add_lit]

theorem ok_indexAddr_slice {t e : TypeId} {x i : Operand} {ti ei : TI} {pre : Prop} {v : AV} {u : List (Nat × Option Obj)} {n : List Nat} (hT : TabOk P tab) (ho : o.op = .indexAddr t x i) (h : St w0 A0 A ρ s a w)
    (h1 : tab t = some ti) (hk : ti.k = .slice e) (h2 : tab e = some ei)
    (hx : aindexAddr ti ei.size (s.ev x) (s.ev i) s.obj = .val pre v u n) (hp : pre) : Goes P o a w (Sim w0 A0 (s.app o.dst v u)) := by
  have hu := und_slice (hT t ti h1) hk
  have hs := fun w => run_sizeOf' (hT e ei h2) w
  unfold aindexAddr at hx
  split at hx
  · rename_i k q hq
    have r2 := (hq ▸ h.ev i : R ρ A w (a.eval i) _).int_inv
    rw [hk] at hx
    simp only at hx
    split at hx
    · rename_i d m _ hm
      split at hx
      · rename_i ob hob
        split at hx
        · rename_i hesz
          have hesz : ob.c.esz = ei.size := by simpa using hesz
          cases hx
          obtain ⟨hp1, hp2, hp3⟩ := hp
          obtain ⟨ro, uv, hro, hok, hval, hh⟩ := h.row hob hp1
          rcases hh with ⟨_, rfl⟩ | ⟨g, cap, rfl, hc, hb, hcells⟩
          · omega
          · have r1 := (hm ▸ h.ev x : R ρ A w (a.eval x) _).own_inv hro hval rfl
            refine goes_value h (val := .pointer (some ⟨g, q.toNat * ei.size, none⟩)) ?_ ?_
            · simp only [execOp, ho, r1, r2, Sem.run_bind, run_indexAt_sl hu hs hp2 hp3, Result.andThen_ok, Sem.run_pure, Nat.zero_add]
            · rw [mulSz_eq]
              refine .eptr _ _ _ _ rfl fun o' u' len' ho' hv' => ?_
              rw [hro] at ho'; cases ho'
              rw [hval] at hv'; cases hv'
              exact ⟨Nat.le_refl _, fun _ g' cap' e => by cases e; rfl⟩
        · cases hx
      · cases hx
    · rename_i xs _ hm
      split at hx
      · rename_i he
        cases hx
        rcases R.row_inv (c := .slS xs) rfl (hm ▸ h.ev x : R ρ A w (a.eval x) _) with ⟨_, h0⟩ | ⟨b, off, cap, vs, r1, hA, hc, hc1, hc2, hc3⟩
        · omega
        · refine goes_value h (val := .pointer (some ⟨b, off + q.toNat, none⟩)) ?_ (.cptr b off q.toNat _ vs hA hc1 hc2 hc3)
          have := run_indexAt_sl (w := w) (b := b) (off := off) (cap := cap) (k := k) hu hs hp.1 hp.2
          rw [he, Nat.mul_one] at this
          simp only [execOp, ho, r1, r2, Sem.run_bind, this, Result.andThen_ok, Sem.run_pure]
      · cases hx
    · rename_i xs _ hm
      split at hx
      · rename_i he
        cases hx
        rcases R.row_inv (c := .slB xs) rfl (hm ▸ h.ev x : R ρ A w (a.eval x) _) with ⟨_, h0⟩ | ⟨b, off, cap, vs, r1, hA, hc, hc1, hc2, hc3⟩
        · omega
        · refine goes_value h (val := .pointer (some ⟨b, off + q.toNat, none⟩)) ?_ (.cptr b off q.toNat _ vs hA hc1 hc2 hc3)
          have := run_indexAt_sl (w := w) (b := b) (off := off) (cap := cap) (k := k) hu hs hp.1 hp.2
          rw [he, Nat.mul_one] at this
          simp only [execOp, ho, r1, r2, Sem.run_bind, this, Result.andThen_ok, Sem.run_pure]
      · cases hx
    · rename_i sz cs _ hm
      split at hx
      · rename_i he
        have he : sz = ei.size := by simpa using he
        cases hx
        obtain ⟨hp1, hp2, hp3⟩ := hp
        rcases R.row_inv hp1 (hm ▸ h.ev x : R ρ A w (a.eval x) _) with ⟨_, h0⟩ | ⟨b, off, cap, vs, r1, hA, hc, hc1, hc2, hc3⟩
        · omega
        · refine goes_value h (val := .pointer (some ⟨b, off + q.toNat * ei.size, none⟩)) ?_ ?_
          · simp only [execOp, ho, r1, r2, Sem.run_bind, run_indexAt_sl hu hs hp2 hp3, Result.andThen_ok, Sem.run_pure]
          · rw [mulSz_eq, he]
            exact .cptr b off _ _ vs hA (he ▸ hc1) (he ▸ hc2) (he ▸ hc3)
      · cases hx
    · rename_i hk2 _
      cases hk2
    · cases hx
  · cases hx

theorem ok_indexAddr_array {t e : TypeId} {len : Nat} {x i : Operand} {ti ei : TI} {pre : Prop} {v : AV} {u : List (Nat × Option Obj)} {n : List Nat} (hT : TabOk P tab) (ho : o.op = .indexAddr t x i) (h : St w0 A0 A ρ s a w)
    (h1 : tab t = some ti) (hk : ti.k = .array len e) (h2 : tab e = some ei)
    (hx : aindexAddr ti ei.size (s.ev x) (s.ev i) s.obj = .val pre v u n) (hp : pre) : Goes P o a w (Sim w0 A0 (s.app o.dst v u)) := by
  have hu := und_array (hT t ti h1) hk
  have hs := fun w => run_sizeOf' (hT e ei h2) w
  unfold aindexAddr at hx
  split at hx
  · rename_i k q hq
    have r2 := (hq ▸ h.ev i : R ρ A w (a.eval i) _).int_inv
    rw [hk] at hx
    simp only at hx
    split at hx
    · rename_i hk2 _; cases hk2
    · rename_i hk2 _; cases hk2
    · rename_i hk2 _; cases hk2
    · rename_i hk2 _; cases hk2
    · rename_i d off hk2 hm
      cases hk2
      split at hx
      · rename_i hb
        cases hx
        obtain ⟨b, ob, cs, hob, hcs, hro, hok⟩ := h.box hb
        have r1 := R.ptr_inv (hm ▸ h.ev x : R ρ A w (a.eval x) _) hro
        refine goes_value h (val := .pointer (some ⟨b, off + q.toNat * ei.size, none⟩)) ?_ ?_
        · simp [execOp, ho, r1, r2, Instr.indexAt, run_underlying hu, Instr.sureAddr, asIntOf, hp.1, hp.2, hs, Addr.add_lit]
        · rw [mulSz_eq]
          exact .ptr _ _ _ rfl fun b' hb' => by rw [hro] at hb'; cases hb'; rfl
      · cases hx
    · cases hx
  · cases hx

theorem ok_index_str {t : TypeId} {x i : Operand} {ti : TI} {esz : Nat} {pre : Prop} {v : AV} {u : List (Nat × Option Obj)} {n : List Nat} (hT : TabOk P tab) (ho : o.op = .index t x i) (h : St w0 A0 A ρ s a w)
    (h1 : tab t = some ti) (hk : ti.k = .str) (hx : aindex ti esz (s.ev x) (s.ev i) = .val pre v u n) (hp : pre) : Goes P o a w (Sim w0 A0 (s.app o.dst v u)) := by
  have hu := und_str (hT t ti h1) hk
  unfold aindex at hx
  split at hx
  · rename_i k q hq
    have r2 := (hq ▸ h.ev i : R ρ A w (a.eval i) _).int_inv
    rw [hk] at hx
    split at hx
    · rename_i l _ hm
      cases hx
      have r1 := (hm ▸ h.ev x : R ρ A w (a.eval x) _).str_inv
      refine goes_value h (val := .int .u8 ((l.getD q.toNat 0).toNat : Int)) ?_ (.int _ _)
      have hlt : q.toNat < l.length := by omega
      have hb : (ByteArray.mk l.toArray)[q.toNat]? = some (l[q.toNat]) := by
        have h2 : q.toNat < (ByteArray.mk l.toArray).size := by simpa [ByteArray.size] using hlt
        rw [getElem?_pos (ByteArray.mk l.toArray) q.toNat h2]
        rfl
      simp [execOp, ho, r1, r2, Instr.index, run_underlying hu, asIntOf, hp.1, hb, List.getD_eq_getElem?_getD, List.getElem?_eq_getElem hlt]
    · rename_i hk2 _; cases hk2
    · cases hx
  · cases hx

theorem ok_index_array {t e : TypeId} {len : Nat} {x i : Operand} {ti ei : TI} {pre : Prop} {v : AV} {u : List (Nat × Option Obj)} {n : List Nat} (hT : TabOk P tab) (ho : o.op = .index t x i) (h : St w0 A0 A ρ s a w)
    (h1 : tab t = some ti) (hk : ti.k = .array len e) (h2 : tab e = some ei) (hna : ei.isAgg = false) (hx : aindex ti ei.size (s.ev x) (s.ev i) = .val pre v u n) (hp : pre) : Goes P o a w (Sim w0 A0 (s.app o.dst v u)) := by
  have hu := und_array (hT t ti h1) hk
  have hs := fun w => run_sizeOf' (hT e ei h2) w
  have hg := fun w => run_isAgg' (hT e ei h2) w
  rw [hna] at hg
  unfold aindex at hx
  split at hx
  · rename_i k q hq
    have r2 := (hq ▸ h.ev i : R ρ A w (a.eval i) _).int_inv
    rw [hk] at hx
    split at hx
    · rename_i hk2 _; cases hk2
    · rename_i cs hk2 hm
      cases hk2
      split at hx
      · rename_i he
        rw [he] at hs
        cases hx
        obtain ⟨vs, r1, hl, hr, _⟩ := (hm ▸ h.ev x : R ρ A w (a.eval x) _).agg_inv
        have hlt : q.toNat < cs.length := by omega
        have hlt' : q.toNat < vs.size := by omega
        refine goes_value h (val := vs.getD q.toNat undef) ?_ ?_
        · simp [execOp, ho, r1, r2, Instr.index, run_underlying hu, asIntOf, hp.1, hp.2.1, part, hg, hs, hlt']
        · have := hr q.toNat _ (List.getElem?_eq_getElem hlt)
          simpa [List.getD_eq_getElem?_getD, List.getElem?_eq_getElem hlt] using this
      · cases hx
    · cases hx
  · cases hx

end
end Go.Proofs.Ytefbgdnobnemkaa.AM

namespace Go.Proofs.Ytefbgdnobnemkaa.AM
open Go Go.RowKit

section
variable {P : Program} {tab : Tab} {w0 : World} {A0 A : Nat → Prop} {ρ : Rho} {s : AState} {a : Act} {w : World} {o : Oper}

/-- A bound as the model has it. -/
def BndOf (l : Option Int) (v : Option Value) : Prop := (l = none ∧ v = none) ∨ ∃ k n, l = some n ∧ v = some (.int k n)

theorem bnd_ok (h : St w0 A0 A ρ s a w) {x : Option Operand} {l : Option Int} (hb : bnd (x.map s.ev) = some l) : BndOf l (x.map a.eval) := by
  cases x with
  | none => simp [bnd] at hb; exact .inl ⟨hb.symm, rfl⟩
  | some x =>
    simp only [Option.map_some] at hb ⊢
    unfold bnd at hb
    split at hb
    · rename_i e; cases e
    · rename_i k n e
      cases e' : s.ev x <;> rw [e'] at e <;> simp at e
      obtain ⟨rfl, rfl⟩ := e
      cases hb
      exact .inr ⟨_, _, rfl, by rw [(e' ▸ h.ev x : R ρ A w (a.eval x) _).int_inv]⟩
    · cases hb

def loN (l : Option Int) : Nat := match l with | none => 0 | some n => n.toNat
def hiN (h : Option Int) (len : Nat) : Nat := match h with | none => len | some n => n.toNat

theorem run_bounds {isS : Bool} {len cap : Nat} {l h : Option Int} {vl vh : Option Value} (hl : BndOf l vl) (hh : BndOf h vh) (hp : cutPre len l h) (hc : len ≤ cap) :
    (Instr.sliceBounds isS len cap vl vh none).run P w = .ok (loN l, hiN h len, cap) w ∧ loN l ≤ hiN h len ∧ hiN h len ≤ len := by
  rcases hl with ⟨rfl, rfl⟩ | ⟨k, n, rfl, rfl⟩ <;> rcases hh with ⟨rfl, rfl⟩ | ⟨k', n', rfl, rfl⟩ <;> simp only [cutPre] at hp
  · exact ⟨by simp [Instr.sliceBounds, loN, hiN], by simp [loN], by simp [hiN]⟩
  · refine ⟨?_, by simp [loN], by simp [hiN]; omega⟩
    have h1 : 0 ≤ n' ∧ n' ≤ (cap : Int) := by omega
    simp [Instr.sliceBounds, Instr.sliceBound, asIntOf, loN, hiN, h1]
  · refine ⟨?_, by simp [loN, hiN]; omega, by simp [hiN]⟩
    simp [Instr.sliceBounds, Instr.sliceBound, asIntOf, loN, hiN, hp]
  · refine ⟨?_, by simp [loN, hiN]; omega, by simp [hiN]; omega⟩
    have h1 : 0 ≤ n' ∧ n' ≤ (cap : Int) := by omega
    have h2 : 0 ≤ n ∧ n ≤ max n' 0 := by omega
    simp [Instr.sliceBounds, Instr.sliceBound, asIntOf, loN, hiN, h1, h2]

theorem cutL_eq {α : Type} (xs : List α) {l h : Option Int} (hp : cutPre xs.length l h) : cutL xs (toN l) (toN h) = (xs.take (hiN h xs.length)).drop (loN l) := by
  cases l <;> cases h <;> simp [cutL, toN, hiN, loN]

theorem run_slice_str {t : TypeId} {xs : List UInt8} {l h : Option Int} {vl vh : Option Value} (hu : P.underlying t = some .string) (hl : BndOf l vl) (hh : BndOf h vh) (hp : cutPre xs.length l h) :
    (Instr.sliceAt t (.string ⟨xs.toArray⟩) vl vh none).run P w = .ok (.string ⟨(cutL xs (toN l) (toN h)).toArray⟩) w := by
  obtain ⟨hr, h1, h2⟩ := run_bounds (P := P) (w := w) (isS := false) hl hh hp (Nat.le_refl _)
  have hs : (ByteArray.mk xs.toArray).size = xs.length := by simp [ByteArray.size]
  simp only [Instr.sliceAt, Sem.run_bind, run_underlying hu, Result.andThen_ok, Instr.slice, hs, hr, Option.isSome_none, Bool.false_eq_true, if_false, Sem.run_pure]
  rw [cutL_eq xs hp]
  congr 2
  apply ByteArray.ext
  apply Array.ext'
  simp [List.drop_take]

/-- A part of a row that nobody writes. -/
theorem run_slice_row {t e : TypeId} {esz : Nat} {c c' : AV} {n : Nat} {v : Value} {l h : Option Int} {vl vh : Option Value} (hu : P.underlying t = some (.slice e)) (hs : ∀ w, (sizeOf e).run P w = .ok esz w)
    (hl : BndOf l vl) (hh : BndOf h vh) (hp : cutPre n l h) (hc : c.rowlen = some n) (hc' : c'.rowlen = some (hiN h n - loN l)) (hcell : ∀ i x, c'.cell? i = some x → c.cell? (loN l * esz + i) = some x)
    (hz : hiN h n - loN l = 0 → ∀ i, c'.cell? i = none) (hv : R ρ A w v c) : ∃ v', (Instr.sliceAt t v vl vh none).run P w = .ok v' w ∧ R ρ A w v' c' := by
  rcases hv.row_inv hc with ⟨rfl, rfl⟩ | ⟨b, off, cap, vs, rfl, hA, hcap, h1, h2, h3⟩
  · obtain ⟨hr, h4, h5⟩ := run_bounds (P := P) (w := w) (isS := true) hl hh hp (Nat.le_refl _)
    have e1 : hiN h 0 = 0 := by omega
    have e2 : loN l = 0 := by omega
    refine ⟨.slice none 0 0, ?_, .row0 _ (by rw [hc', e1, e2])⟩
    simp [Instr.sliceAt, run_underlying hu, Instr.slice, hr, hs, e1, e2]
  · obtain ⟨hr, h4, h5⟩ := run_bounds (P := P) (w := w) (isS := true) hl hh hp hcap
    refine ⟨_, by simp [Instr.sliceAt, run_underlying hu, Instr.slice, hr, hs]; rfl, ?_⟩
    by_cases hm : cap = loN l
    · have e : hiN h n - loN l = 0 := by omega
      rw [if_pos hm]
      have hn := hz e
      exact .row b off _ _ c' vs (by rw [hc']) hA (by omega) (fun i x hx => by rw [hn i] at hx; cases hx) (fun i x hx => by rw [hn i] at hx; cases hx) (fun i x hx => by rw [hn i] at hx; cases hx)
    · rw [if_neg hm]
      simp only [Addr.add_lit]
      refine .row b (off + loN l * esz) _ _ c' (fun i => vs (loN l * esz + i)) (by rw [hc']) hA (by omega) (fun i x hx => ?_) (fun i x hx => h2 _ _ (hcell i x hx)) (fun i x hx => h3 _ _ (hcell i x hx))
      rw [Nat.add_assoc]
      exact h1 _ _ (hcell i x hx)

theorem cut_getElem? {α : Type} {xs : List α} {p q i : Nat} {x : α} (h : ((xs.take q).drop p)[i]? = some x) : xs[p + i]? = some x := by
  rw [List.getElem?_drop] at h
  have hlt := (List.getElem?_eq_some_iff.1 h).1
  rw [List.length_take] at hlt
  rwa [List.getElem?_take_of_lt (by omega)] at h

theorem cut_S {xs : List (List UInt8)} {l h : Option Int} (hp : cutPre xs.length l h) : (AV.slS (cutL xs (toN l) (toN h))).rowlen = some (hiN h xs.length - loN l) ∧
    (∀ i x, (AV.slS (cutL xs (toN l) (toN h))).cell? i = some x → (AV.slS xs).cell? (loN l * 1 + i) = some x) ∧ (hiN h xs.length - loN l = 0 → ∀ i, (AV.slS (cutL xs (toN l) (toN h))).cell? i = none) := by
  rw [cutL_eq xs hp]
  have hb : hiN h xs.length ≤ xs.length := by
    cases l <;> cases h <;> simp [hiN, cutPre] at hp ⊢ <;> omega
  refine ⟨by simp [AV.rowlen]; omega, fun i x hx => ?_, fun h0 i => ?_⟩
  · simp only [AV.cell?, Option.map_eq_some_iff] at hx ⊢
    obtain ⟨y, hy, rfl⟩ := hx
    exact ⟨y, by rw [Nat.mul_one]; exact cut_getElem? hy, rfl⟩
  · simp only [AV.cell?, Option.map_eq_none_iff]
    apply List.getElem?_eq_none
    simp; omega

theorem cut_B {xs : List UInt8} {l h : Option Int} (hp : cutPre xs.length l h) : (AV.slB (cutL xs (toN l) (toN h))).rowlen = some (hiN h xs.length - loN l) ∧
    (∀ i x, (AV.slB (cutL xs (toN l) (toN h))).cell? i = some x → (AV.slB xs).cell? (loN l * 1 + i) = some x) ∧ (hiN h xs.length - loN l = 0 → ∀ i, (AV.slB (cutL xs (toN l) (toN h))).cell? i = none) := by
  rw [cutL_eq xs hp]
  have hb : hiN h xs.length ≤ xs.length := by
    cases l <;> cases h <;> simp [hiN, cutPre] at hp ⊢ <;> omega
  refine ⟨by simp [AV.rowlen]; omega, fun i x hx => ?_, fun h0 i => ?_⟩
  · simp only [AV.cell?, Option.map_eq_some_iff] at hx ⊢
    obtain ⟨y, hy, rfl⟩ := hx
    exact ⟨y, by rw [Nat.mul_one]; exact cut_getElem? hy, rfl⟩
  · simp only [AV.cell?, Option.map_eq_none_iff]
    apply List.getElem?_eq_none
    simp; omega

theorem rowlen_G {sz m : Nat} {cs : List AV} (hs : 0 < sz) (h : cs.length = m * sz) : (AV.slG sz cs).rowlen = some m := by
  simp [AV.rowlen, hs, h]

theorem rowlen_G_inv {sz m : Nat} {cs : List AV} (h : (AV.slG sz cs).rowlen = some m) : 0 < sz ∧ cs.length = m * sz := by
  simp only [AV.rowlen] at h
  split at h
  · rename_i hh
    simp only [Option.some.injEq] at h
    exact ⟨hh.1, by rw [← h]; exact hh.2⟩
  · cases h

theorem cut_G {sz : Nat} {cs : List AV} {n : Nat} {l h : Option Int} (hc : (AV.slG sz cs).rowlen = some n) (hp : cutPre n l h) : ((AV.slG sz cs).cut (toN l) (toN h)).rowlen = some (hiN h n - loN l) ∧
    (∀ i x, ((AV.slG sz cs).cut (toN l) (toN h)).cell? i = some x → (AV.slG sz cs).cell? (loN l * sz + i) = some x) ∧ (hiN h n - loN l = 0 → ∀ i, ((AV.slG sz cs).cut (toN l) (toN h)).cell? i = none) := by
  obtain ⟨hs, hlen⟩ := rowlen_G_inv hc
  have hb : hiN h n ≤ n ∧ loN l ≤ hiN h n := by
    cases l <;> cases h <;> simp [hiN, loN, cutPre] at hp ⊢ <;> omega
  have e : (AV.slG sz cs).cut (toN l) (toN h) = .slG sz ((cs.take (hiN h n * sz)).drop (loN l * sz)) := by
    have ht : cs.take (n * sz) = cs := List.take_of_length_le (by omega)
    cases l <;> cases h <;> simp [AV.cut, cutL, toN, hiN, loN, ht]
  rw [e]
  have hle : hiN h n * sz ≤ n * sz := Nat.mul_le_mul_right _ hb.1
  have hlen2 : ((cs.take (hiN h n * sz)).drop (loN l * sz)).length = (hiN h n - loN l) * sz := by
    rw [List.length_drop, List.length_take, hlen, Nat.min_eq_left hle, Nat.sub_mul]
  refine ⟨rowlen_G hs hlen2, fun i x hx => cut_getElem? hx, fun h0 i => ?_⟩
  apply List.getElem?_eq_none
  rw [hlen2, h0]; simp

theorem ok_slice_str {t : TypeId} {x : Operand} {lo hi : Option Operand} {ti : TI} {esz : Nat} {pre : Prop} {v : AV} {u : List (Nat × Option Obj)} {n : List Nat} (hT : TabOk P tab) (ho : o.op = .slice t x lo hi none) (h : St w0 A0 A ρ s a w)
    (h1 : tab t = some ti) (hk : ti.k = .str) (hx : aslice ti esz (s.ev x) (lo.map s.ev) (hi.map s.ev) s.obj = .val pre v u n) (hp : pre) : Goes P o a w (Sim w0 A0 (s.app o.dst v u)) := by
  have hu := und_str (hT t ti h1) hk
  unfold aslice at hx
  split at hx
  · rename_i l h' hl hh
    rw [hk] at hx
    split at hx
    · rename_i xs _ hm
      cases hx
      have r1 := (hm ▸ h.ev x : R ρ A w (a.eval x) _).str_inv
      refine goes_value h ?_ (.str _)
      simp only [execOp, ho, r1, Sem.run_bind, Option.map_none, run_slice_str hu (bnd_ok h hl) (bnd_ok h hh) hp, Result.andThen_ok, Sem.run_pure]
    · rename_i hk2 _; cases hk2
    · rename_i hk2 _; cases hk2
    · rename_i hk2 _; cases hk2
    · rename_i hk2 _; cases hk2
    · rename_i hk2 _; cases hk2
    · cases hx
  · cases hx

theorem ok_slice_row {t e : TypeId} {x : Operand} {lo hi : Option Operand} {ti ei : TI} {pre : Prop} {v : AV} {u : List (Nat × Option Obj)} {n : List Nat} (hT : TabOk P tab) (ho : o.op = .slice t x lo hi none) (h : St w0 A0 A ρ s a w)
    (h1 : tab t = some ti) (hk : ti.k = .slice e) (h2 : tab e = some ei) (hx : aslice ti ei.size (s.ev x) (lo.map s.ev) (hi.map s.ev) s.obj = .val pre v u n) (hp : pre) : Goes P o a w (Sim w0 A0 (s.app o.dst v u)) := by
  have hu := und_slice (hT t ti h1) hk
  have hs := fun w => run_sizeOf' (hT e ei h2) w
  unfold aslice at hx
  split at hx
  · rename_i l h' hl hh
    have hl := bnd_ok h hl
    have hh := bnd_ok h hh
    rw [hk] at hx
    split at hx
    · rename_i hk2 _; cases hk2
    · rename_i xs _ hm
      split at hx
      · rename_i he
        cases hx
        rw [he] at hs
        obtain ⟨c1, c2, c3⟩ := cut_S hp
        obtain ⟨v', hr, hR⟩ := run_slice_row hu hs hl hh hp (c := .slS xs) rfl c1 c2 c3 (hm ▸ h.ev x : R ρ A w (a.eval x) _)
        refine goes_value h (val := v') ?_ hR
        simp only [execOp, ho, Sem.run_bind, Option.map_none, hr, Result.andThen_ok, Sem.run_pure]
      · cases hx
    · rename_i xs _ hm
      split at hx
      · rename_i he
        cases hx
        rw [he] at hs
        obtain ⟨c1, c2, c3⟩ := cut_B hp
        obtain ⟨v', hr, hR⟩ := run_slice_row hu hs hl hh hp (c := .slB xs) rfl c1 c2 c3 (hm ▸ h.ev x : R ρ A w (a.eval x) _)
        refine goes_value h (val := v') ?_ hR
        simp only [execOp, ho, Sem.run_bind, Option.map_none, hr, Result.andThen_ok, Sem.run_pure]
      · cases hx
    · rename_i sz cs _ hm
      split at hx
      · rename_i he
        have he : sz = ei.size := by simpa using he
        cases hx
        obtain ⟨c1, c2, c3⟩ := cut_G hp.1 hp.2
        obtain ⟨v', hr, hR⟩ := run_slice_row hu hs hl hh hp.2 hp.1 c1 (he ▸ c2) c3 (hm ▸ h.ev x : R ρ A w (a.eval x) _)
        refine goes_value h (val := v') ?_ hR
        simp only [execOp, ho, Sem.run_bind, Option.map_none, hr, Result.andThen_ok, Sem.run_pure]
      · cases hx
    · rename_i _ hm
      cases hx
      have r1 := (hm ▸ h.ev x : R ρ A w (a.eval x) _).nilsl_inv
      obtain ⟨hr, h4, h5⟩ := run_bounds (P := P) (w := w) (isS := true) hl hh hp (Nat.le_refl _)
      have e1 : hiN h' 0 = 0 := by omega
      have e2 : loN l = 0 := by omega
      refine goes_value h (val := .slice none 0 0) ?_ .nilsl
      simp [execOp, ho, r1, Instr.sliceAt, run_underlying hu, Instr.slice, hr, hs, e1, e2]
    · rename_i d m _ hm
      split at hx
      · rename_i ob hob
        split at hx
        · rename_i xs hxs
          split at hx
          · rename_i he
            cases hx
            rw [he] at hs
            obtain ⟨rfl, hp2⟩ := hp
            obtain ⟨c1, c2, c3⟩ := cut_S hp2
            have hrl : ob.c.rowlen = some xs.length := by rw [hxs]; rfl
            obtain ⟨ro, uv, hro, hok, hval, hcase⟩ := h.row hob hrl
            have r1 := (hm ▸ h.ev x : R ρ A w (a.eval x) _).own_inv hro hval rfl
            have h' := h.freeze hro hob
            have hRow : R ρ (fun b => A b ∨ ro.blk? = some b) w uv (.slS xs) := by
              rcases hcase with ⟨rfl, h0⟩ | ⟨g, cap, rfl, hc, hb, hcells⟩
              · exact .row0 _ (by simp [AV.rowlen, h0])
              · rw [hxs] at hcells
                refine .row g 0 xs.length cap _ (fun i => (w.cell? ⟨g, i, none⟩).getD undef) rfl (.inr hb) hc (fun i y hy => ?_) (fun i y hy => ?_) (fun i y hy => ?_)
                · obtain ⟨_, v, hv, _⟩ := hcells i y hy; rw [Nat.zero_add, hv]; rfl
                · obtain ⟨_, v, hv, _, hR⟩ := hcells i y hy; rw [hv]; exact hR.mono (fun _ h => .inl h) (fun _ _ => rfl) (fun _ _ => rfl)
                · obtain ⟨_, v, hv, h1, _⟩ := hcells i y hy; rw [hv]; exact h1
            obtain ⟨v', hr, hR⟩ := run_slice_row hu hs hl hh hp2 (c := .slS xs) rfl c1 c2 c3 hRow
            refine .inl ⟨v', w, ?_, _, ρ, h'.put o.dst hR⟩
            simp only [execOp, ho, r1, Sem.run_bind, Option.map_none, hr, Result.andThen_ok, Sem.run_pure]
          · cases hx
        · cases hx
      · cases hx
    · cases hx
  · cases hx

end
end Go.Proofs.Ytefbgdnobnemkaa.AM

namespace Go.Proofs.Ytefbgdnobnemkaa.AM
open Go Go.RowKit

section
variable {P : Program} {tab : Tab} {w0 : World} {A0 A : Nat → Prop} {ρ : Rho} {s : AState} {a : Act} {w : World} {o : Oper}

theorem exec_builtin {b : Builtin} {c : Call} (ho : o.op = .call c) (hc : c.callee = .builtin b) : ∃ k, execOp a.eval o = builtin b c.argTypes o.type k (c.args.map a.eval) := by
  unfold execOp resolve
  rw [ho]
  simp only [hc]
  exact ⟨_, rfl⟩

theorem len_row {t e : TypeId} {c : AV} {n : Nat} {v : Value} (hu : P.underlying t = some (.slice e)) (hc : c.rowlen = some n) (hv : R ρ A w v c) (ts : Array TypeId) (ht : ts[0]? = some t) (args : Array Value) (ha : args[0]? = some v) (ty : TypeId) :
    (Builtin.len_ ts ty args).run P w = .ok (.int .i64 (n : Int)) w := by
  rcases hv.row_inv hc with ⟨rfl, rfl⟩ | ⟨b, off, cap, vs, rfl, _⟩
  · simp [Builtin.len_, ht, ha, run_underlying hu, goInt]
  · simp [Builtin.len_, ht, ha, run_underlying hu, goInt]

theorem ok_len_str {t : TypeId} {x : Operand} {c : Call} {l : List UInt8} {ti : TI} (hT : TabOk P tab) (ho : o.op = .call c) (hc : c.callee = .builtin .len) (h : St w0 A0 A ρ s a w)
    (h1 : tab t = some ti) (hk : ti.k = .str) (ht : c.argTypes[0]? = some t) (ha : c.args[0]? = some x) (hx : s.ev x = .str l) : Goes P o a w (Sim w0 A0 (s.app o.dst (.int .i64 (l.length : Int)) [])) := by
  have hu := und_str (hT t ti h1) hk
  have r1 := (hx ▸ h.ev x : R ρ A w (a.eval x) _).str_inv
  refine goes_value h (val := .int .i64 (l.length : Int)) ?_ (.int _ _)
  obtain ⟨kb, hkb⟩ := exec_builtin (a := a) ho hc; rw [hkb]
  have hs : (ByteArray.mk l.toArray).size = l.length := by simp [ByteArray.size]
  simp [builtin, Builtin.len_, ht, ha, r1, run_underlying hu, goInt, hs]

theorem ok_len_slice {t e : TypeId} {x : Operand} {c : Call} {ti : TI} {pre : Prop} {v : AV} {u : List (Nat × Option Obj)} {n : List Nat} (hT : TabOk P tab) (ho : o.op = .call c) (hc : c.callee = .builtin .len) (h : St w0 A0 A ρ s a w)
    (h1 : tab t = some ti) (hk : ti.k = .slice e) (ht : c.argTypes[0]? = some t) (ha : c.args[0]? = some x) (hns : ∀ l, s.ev x ≠ .str l) (hx : alenO (s.ev x) s.obj = .val pre v u n) (hp : pre) : Goes P o a w (Sim w0 A0 (s.app o.dst v u)) := by
  have hu := und_slice (hT t ti h1) hk
  have fin : ∀ (m : Nat) (c' : AV), c'.rowlen = some m → R ρ A w (a.eval x) c' → Goes P o a w (Sim w0 A0 (s.app o.dst (.int .i64 (m : Int)) [])) := by
    intro m c' hm hR
    refine goes_value h (val := .int .i64 (m : Int)) ?_ (.int _ _)
    obtain ⟨kb, hkb⟩ := exec_builtin (a := a) ho hc; rw [hkb]
    have := len_row (P := P) hu hm hR c.argTypes ht (c.args.map a.eval) (by simp [ha]) o.type
    simp [builtin, this]
  unfold alenO at hx
  split at hx
  · rename_i d m hm
    split at hx
    · rename_i ob hob
      cases hx
      obtain ⟨ro, uv, hro, hok, hval, hcase⟩ := h.row hob hp
      have r1 := (hm ▸ h.ev x : R ρ A w (a.eval x) _).own_inv hro hval rfl
      refine goes_value h (val := .int .i64 (m : Int)) ?_ (.int _ _)
      obtain ⟨kb, hkb⟩ := exec_builtin (a := a) ho hc; rw [hkb]
      rcases hcase with ⟨rfl, rfl⟩ | ⟨g, cap, rfl, _⟩
      · simp [builtin, Builtin.len_, ht, ha, r1, run_underlying hu, goInt]
      · simp [builtin, Builtin.len_, ht, ha, r1, run_underlying hu, goInt]
    · cases hx
  · unfold alen at hx
    split at hx
    · rename_i l hm; exact absurd hm (hns l)
    · rename_i l hm; cases hx; exact fin _ (.slS l) rfl (hm ▸ h.ev x)
    · rename_i l hm; cases hx; exact fin _ (.slB l) rfl (hm ▸ h.ev x)
    · rename_i sz cs hm; cases hx; exact fin _ (.slG sz cs) hp (hm ▸ h.ev x)
    · rename_i hm
      cases hx
      have r1 := (hm ▸ h.ev x : R ρ A w (a.eval x) _).nilsl_inv
      refine goes_value h (val := .int .i64 0) ?_ (.int _ _)
      obtain ⟨kb, hkb⟩ := exec_builtin (a := a) ho hc; rw [hkb]
      simp [builtin, Builtin.len_, ht, ha, r1, run_underlying hu, goInt]
    · cases hx

theorem ok_minmax {mx : Bool} {c : Call} {pre : Prop} {v : AV} {u : List (Nat × Option Obj)} {n : List Nat} (ho : o.op = .call c) (hc : c.callee = .builtin (if mx then .max else .min)) (h : St w0 A0 A ρ s a w)
    (hx : amin mx (c.args.toList.map s.ev) = .val pre v u n) : Goes P o a w (Sim w0 A0 (s.app o.dst v u)) := by
  unfold amin at hx
  split at hx
  · rename_i k p k' q hm
    have hlen : c.args.toList.length = 2 := by have := congrArg List.length hm; simpa using this
    obtain ⟨x, y, hl⟩ : ∃ x y, c.args.toList = [x, y] := by
      match c.args.toList, hlen with
      | [x, y], _ => exact ⟨x, y, rfl⟩
    rw [hl] at hm
    simp only [List.map_cons, List.map_nil, List.cons.injEq, and_true] at hm
    have r1 := (hm.1 ▸ h.ev x : R ρ A w (a.eval x) _).int_inv
    have r2 := (hm.2 ▸ h.ev y : R ρ A w (a.eval y) _).int_inv
    have ha : c.args = #[x, y] := Array.ext' (by simp [hl])
    split at hx
    · rename_i hk
      have hk := of_decide_eq_true hk
      subst hk
      split at hx
      · cases hx
        refine goes_value h (val := .int k (max p q)) ?_ (.int _ _)
        obtain ⟨kb, hkb⟩ := exec_builtin (a := a) ho hc; rw [hkb]
        simp only [if_true, builtin, Builtin.max_, ha, List.map_toArray, List.map_cons, List.map_nil, r1, r2]
        simp [Builtin.max2]
        by_cases hpq : p < q
        · rw [if_pos hpq]; omega
        · rw [if_neg hpq]; omega
      · cases hx
        refine goes_value h (val := .int k (min p q)) ?_ (.int _ _)
        obtain ⟨kb, hkb⟩ := exec_builtin (a := a) ho hc; rw [hkb]
        simp only [Bool.false_eq_true, if_false, builtin, Builtin.min_, ha, List.map_toArray, List.map_cons, List.map_nil, r1, r2]
        simp [Builtin.min2]
        by_cases hpq : q < p
        · rw [if_pos hpq]; omega
        · rw [if_neg hpq]; omega
    · cases hx
  · cases hx

theorem ok_nilCheck {x : Operand} {v : AV} (ho : o.op = .nilCheck x) (h : St w0 A0 A ρ s a w) (hx : (∃ f cs, s.ev x = .fn f cs) ∨ (∃ c off, s.ev x = .cptr c off) ∨ (∃ d off, s.ev x = .ptr d off ∧ isBox s.obj d = true)) (hv : v = s.ev x) :
    Goes P o a w (Sim w0 A0 (s.app o.dst v [])) := by
  subst hv
  refine goes_value h (val := a.eval x) ?_ (h.ev x)
  rcases hx with ⟨f, cs, hx⟩ | ⟨c, off, hx⟩ | ⟨d, off, hx, hb⟩
  · obtain ⟨vs, hv, _⟩ := (hx ▸ h.ev x : R ρ A w (a.eval x) _).fn_inv
    simp [execOp, ho, hv]
  · obtain ⟨b, o0, vs, hv, _⟩ := (hx ▸ h.ev x : R ρ A w (a.eval x) _).cptr_inv
    simp [execOp, ho, hv]
  · obtain ⟨b, ob, cs, hob, hcs, hro, hok⟩ := h.box hb
    have hv := R.ptr_inv (hx ▸ h.ev x : R ρ A w (a.eval x) _) hro
    simp [execOp, ho, hv]

theorem ok_makeFunc {f : FuncId} {caps : Array Operand} (ho : o.op = .makeFunc (.func f) #[] caps) (h : St w0 A0 A ρ s a w) :
    Goes P o a w (Sim w0 A0 (s.app o.dst (.fn f (caps.toList.map s.ev)) [])) := by
  refine goes_value h (val := .func (.func f) #[] (caps.map a.eval)) ?_ (.fn f _ _ (by simp) fun i x hx => ?_)
  · simp [execOp, ho, Instr.makeFunc]
  · rw [List.getElem?_map, Option.map_eq_some_iff] at hx
    obtain ⟨y, hy, rfl⟩ := hx
    have hi : caps[i]? = some y := by simpa using hy
    have : (caps.map a.eval).getD i undef = a.eval y := by simp [Array.getD_eq_getD_getElem?, hi]
    rw [this]
    exact h.ev y

/-- Cells that are read. -/
theorem goes_read {t : TypeId} {x : Operand} {ti : TI} {b o0 off : Nat} {c : AV} {pre' pre : Prop} {v : AV} {u : List (Nat × Option Obj)} {n : List Nat} (hT : TabOk P tab) (h1 : tab t = some ti) (ho : o.op = .load t x) (h : St w0 A0 A ρ s a w)
    (hv : a.eval x = .pointer (some ⟨b, o0 + off, none⟩)) (hc : ∀ i y, c.cell? i = some y → ∃ v, w.cell? ⟨b, o0 + i, none⟩ = some v ∧ v.oneCell' = true ∧ R ρ A w v y)
    (hx : aread ti pre' c off = .val pre v u n) (hp : pre) : Goes P o a w (Sim w0 A0 (s.app o.dst v u)) := by
  have hg := run_isAgg' (hT t ti h1) w
  have hs := run_sizeOf' (hT t ti h1) w
  unfold aread at hx
  split at hx
  · rename_i hag
    rw [hag] at hg
    cases hx
    have hcell : ∀ j, j < ti.size → ∃ v, w.cell? ⟨b, o0 + (off + j), none⟩ = some v ∧ v.oneCell' = true ∧ R ρ A w v (c.get (off + j)) := fun j hj => hc _ _ (AV.cell?_get (by have := hp.2; omega))
    have hl : (loadCells ⟨b, o0 + off, none⟩ ti.size).run P w = .ok ((List.range ti.size).map fun j => (w.cell? ⟨b, o0 + (off + j), none⟩).getD undef).toArray w := by
      refine run_loadCells w _ ti.size _ fun j hj => ?_
      obtain ⟨v, hv, _⟩ := hcell j hj
      rw [Addr.add_lit, Nat.add_assoc, hv]; rfl
    refine goes_value h (val := .agg ((List.range ti.size).map fun j => (w.cell? ⟨b, o0 + (off + j), none⟩).getD undef).toArray) ?_ (.agg _ _ (by simp [AV.sub]) (fun i y hy => ?_) (fun i hi => ?_))
    · simp [execOp, ho, Instr.loadAt, hv, Instr.sureAddr, loadVar, hg, hs, hl]
    · simp only [AV.sub, List.getElem?_map, Option.map_eq_some_iff] at hy
      obtain ⟨j, hj, rfl⟩ := hy
      have hi := (List.getElem?_eq_some_iff.1 hj).1
      simp at hi
      rw [List.getElem?_range hi] at hj; cases hj
      obtain ⟨v, hv, _, hR⟩ := hcell i hi
      simpa [Array.getD_eq_getD_getElem?, List.getElem?_range hi, hi, hv] using hR
    · simp [AV.sub] at hi
      obtain ⟨v, hv, h1, _⟩ := hcell i hi
      simpa [Array.getD_eq_getD_getElem?, List.getElem?_range hi, hi, hv] using h1
  · rename_i hag
    rw [hag] at hg
    cases hx
    obtain ⟨v, hv2, _, hR⟩ := hc _ _ (AV.cell?_get hp.2)
    refine goes_value h (val := v) ?_ hR
    simp [execOp, ho, Instr.loadAt, hv, Instr.sureAddr, loadVar, hg, hv2]

theorem ok_load {t : TypeId} {x : Operand} {ti : TI} {pre : Prop} {v : AV} {u : List (Nat × Option Obj)} {n : List Nat} (hT : TabOk P tab) (ho : o.op = .load t x) (h : St w0 A0 A ρ s a w)
    (h1 : tab t = some ti) (hz : 0 < ti.size) (hx : aload ti (s.ev x) s.obj = .val pre v u n) (hp : pre) : Goes P o a w (Sim w0 A0 (s.app o.dst v u)) := by
  unfold aload at hx
  split at hx
  · rename_i d off hm
    split at hx
    · rename_i ob hob
      split at hx
      · rename_i cs hcs
        obtain ⟨b, ob', cs', hob', hcs', hro, hok⟩ := h.box (d := d) (by simp [isBox, hob, hcs])
        rw [hob] at hob'; cases hob'
        have r1 := R.ptr_inv (hm ▸ h.ev x : R ρ A w (a.eval x) _) hro
        refine goes_read (o0 := 0) (c := .agg cs) hT h1 ho h (by rw [r1, Nat.zero_add]) (fun i y hy => ?_) hx hp
        rw [← hcs] at hy
        rw [Nat.zero_add]
        exact (hok.2.2.2.2.2 i y hy).2
      · cases hx
    · cases hx
  · rename_i c off hm
    obtain ⟨b, o0, vs, r1, hA, hc1, hc2, hc3⟩ := (hm ▸ h.ev x : R ρ A w (a.eval x) _).cptr_inv
    exact goes_read hT h1 ho h r1 (fun i y hy => ⟨_, hc1 i y hy, hc3 i y hy, hc2 i y hy⟩) hx hp
  · rename_i d m off hm
    split at hx
    · rename_i ob hob
      have hpre : ob.c.rowlen = some m ∧ off < ob.c.ncells := by
        unfold aread at hx
        split at hx <;> cases hx
        · exact ⟨hp.1, by omega⟩
        · exact hp
      have hm0 : 0 < m := by
        obtain ⟨h3, h4⟩ := hpre
        cases hc : ob.c <;> rw [hc] at h3 h4 <;> simp [AV.rowlen, AV.ncells] at h3 h4
        · omega
        · omega
        · rename_i sz cs
          have h3 : (AV.slG sz cs).rowlen = some m := by simpa [AV.rowlen] using h3
          obtain ⟨h5, h6⟩ := rowlen_G_inv h3
          rcases Nat.eq_zero_or_pos m with h0 | h0
          · subst h0; omega
          · exact h0
      obtain ⟨ro, g, hro, hok, hb, r1, _, hcells⟩ := h.eptr hob hpre.1 hm0 (hm ▸ h.ev x : R ρ A w (a.eval x) _)
      refine goes_read (o0 := 0) (c := ob.c) hT h1 ho h (by rw [r1, Nat.zero_add]) (fun i y hy => ?_) hx hp
      rw [Nat.zero_add]
      exact (hcells i y hy).2
    · cases hx
  · cases hx

end
end Go.Proofs.Ytefbgdnobnemkaa.AM

namespace Go.Proofs.Ytefbgdnobnemkaa.AM
open Go Go.RowKit

def setA {α : Type} : Array α → Nat → List α → Array α
  | l, _, [] => l
  | l, o, x :: xs => setA (l.setIfInBounds o x) (o + 1) xs

theorem setA_toList {α : Type} : ∀ (xs : List α) (l : Array α) (o : Nat), (setA l o xs).toList = setL l.toList o xs
  | [], _, _ => rfl
  | x :: xs, l, o => by rw [setA, setA_toList xs, Array.toList_setIfInBounds]; rfl

theorem setL_length {α : Type} : ∀ (xs : List α) (l : List α) (o : Nat), (setL l o xs).length = l.length
  | [], _, _ => rfl
  | x :: xs, l, o => by rw [setL, setL_length xs, List.length_set]

theorem setL_getElem? {α : Type} : ∀ (xs : List α) (l : List α) (o i : Nat), (setL l o xs)[i]? = if o ≤ i ∧ i < o + xs.length ∧ i < l.length then xs[i - o]? else l[i]?
  | [], l, o, i => by
    rw [setL, if_neg (by simp; omega)]
  | x :: xs, l, o, i => by
    rw [setL, setL_getElem? xs, List.length_set]
    by_cases h1 : o + 1 ≤ i ∧ i < o + 1 + xs.length ∧ i < l.length
    · rw [if_pos h1, if_pos (by simp; omega), show i - o = (i - (o + 1)) + 1 by omega, List.getElem?_cons_succ]
    · rw [if_neg h1, List.getElem?_set]
      by_cases h2 : o = i
      · subst h2
        by_cases h3 : o < l.length
        · simp [h3]
        · simp [h3]
      · rw [if_neg h2]
        rw [if_neg (by simp; omega)]

theorem setA_size {α : Type} (xs : List α) (l : Array α) (o : Nat) : (setA l o xs).size = l.size := by
  rw [← Array.length_toList, setA_toList, setL_length, Array.length_toList]

theorem heap_setCells_same (b : Nat) : ∀ (vs : List Value) (o : Nat) (w : World) {cur : Array Value} {e : TypeId} {fr : Nat × Nat}, w.heap[b]? = some (.cells cur e fr) → (w.setCells b o vs).heap[b]? = some (.cells (setA cur o vs) e fr)
  | [], _, _, _, _, _, h => h
  | v :: r, o, w, cur, e, fr, h => by
    rw [World.setCells]
    refine heap_setCells_same b r (o + 1) _ ?_
    simp only [World.setCell, Array.getElem?_modify, if_true, h]
    simp

theorem heap_setCells_other (b : Nat) : ∀ (vs : List Value) (o : Nat) (w : World) (k : Nat), k ≠ b → (w.setCells b o vs).heap[k]? = w.heap[k]?
  | [], _, _, _, _ => rfl
  | v :: r, o, w, k, h => by rw [World.setCells, heap_setCells_other b r (o + 1) _ k h, Below.heap_setCell _ _ _ _ h]

theorem size_setCells (b : Nat) : ∀ (vs : List Value) (o : Nat) (w : World), (w.setCells b o vs).heap.size = w.heap.size
  | [], _, _ => rfl
  | v :: r, o, w => by rw [World.setCells, size_setCells b r, World.size_setCell]

theorem below_setCells {B b : Nat} (hb : B ≤ b) : ∀ (vs : List Value) (o : Nat) (w : World), Below B w (w.setCells b o vs)
  | [], _, w => Below.refl B w
  | v :: r, o, w => by
    rw [World.setCells]
    exact ((Below.refl B w).setCell (p := ⟨b, o, none⟩) hb v).trans (below_setCells hb r (o + 1) _)

theorem absV_ments (v : Value) : (absV v).ments = [] := by
  unfold absV
  split <;> simp [AV.ments]

theorem fresh_ev {s : AState} {d : Nat} (h : s.fresh d) (x : Operand) : d ∉ (s.ev x).ments := by
  cases x with
  | tmp t => exact h.1 t
  | const v => simp [AState.ev, absV_ments]
  | global g => simp [AState.ev, AV.ments]
  | func f => simp [AState.ev, AV.ments, mentsL]

theorem cellsOf_ments {x : AV} {cs : List AV} {i d : Nat} {y : AV} (hc : x.cellsOf = some cs) (hy : cs[i]? = some y) (hd : d ∈ y.ments) : d ∈ x.ments := by
  cases x <;> simp_all [AV.cellsOf]
  case agg => subst hc; simpa [AV.ments] using mem_mentsL hy hd
  all_goals
    subst hc
    cases i with
    | zero => simp at hy; subst hy; exact hd
    | succ i => simp at hy

theorem mentsL_of {d : Nat} : ∀ {xs : List AV}, d ∈ mentsL xs → ∃ (i : Nat) (x : AV), xs[i]? = some x ∧ d ∈ x.ments
  | [], h => by simp [mentsL] at h
  | x :: xs, h => by
    simp only [mentsL, List.mem_append] at h
    rcases h with h | h
    · exact ⟨0, x, rfl, h⟩
    · obtain ⟨i, y, hy, hd⟩ := mentsL_of h
      exact ⟨i + 1, y, by simpa using hy, hd⟩

section
variable {P : Program} {tab : Tab} {w0 : World} {A0 A : Nat → Prop} {ρ : Rho} {s : AState} {a : Act} {w : World} {o : Oper}

theorem below_alloc (w : World) (ob : Go.Obj) : Below w.heap.size w (w.alloc ob) := (Below.refl _ _).alloc (Nat.le_refl _) ob

/-- A new variable. -/
theorem goes_new {d e : Nat} {cells : Array Value} {c : AV} {app : Bool} (h : St w0 A0 A ρ s a w) (hf : s.fresh d) (hrun : (execOp a.eval o).run P w = .ok (.value (.pointer (some ⟨w.heap.size, 0, none⟩))) (w.alloc (.cells cells e (0, 0))))
    (hn : c.rowlen = none) (hc : ∀ i x, c.cell? i = some x → i < cells.size ∧ (cells.getD i undef).oneCell' = true ∧ R ρ A w (cells.getD i undef) x) (hm : d ∉ c.ments) :
    Goes P o a w (Sim w0 A0 (s.app o.dst (.ptr d 0) [(d, some { wr := true, app := app, c := c, e := e })])) := by
  have hb := below_alloc w (.cells cells e (0, 0))
  have hnew : (w.alloc (.cells cells e (0, 0))).heap[w.heap.size]? = some (.cells cells e (0, 0)) := heap_alloc_new w _
  have hs : (w.alloc (.cells cells e (0, 0))).heap.size = w.heap.size + 1 := by simp
  have h' := h.newobj hf hb (ob := { wr := true, app := app, c := c, e := e }) (ro := .box w.heap.size) (fun b hb' => by cases hb'; exact ⟨Nat.le_refl _, by omega⟩)
    ⟨hn, h.below.size, by omega, fun _ hA => absurd (h.bound _ hA) (by omega), fun hx => (by cases hx), fun i x hx => by
      obtain ⟨h1, h2, h3⟩ := hc i x hx
      refine ⟨by simp only [World.frozen?, hnew]; simp, cells.getD i undef, ?_, h2, ?_⟩
      · simp only [World.cell?, hnew]
        simp [Array.getD_eq_getD_getElem?, h1]
      · exact (h3.mono (fun _ h => h) (fun b hb' => hb.block b (h.bound b hb')) (fun x hx' => Rho.set_other ρ _ (fun e => hm (AV.cell?_ments hx (e ▸ hx')))))⟩
  exact .inl ⟨_, _, hrun, A, ρ.set d (.box w.heap.size), h'.put o.dst (.ptr d 0 _ rfl fun b hb' => by rw [Rho.set_same] at hb'; cases hb'; rfl)⟩

theorem ok_alloc {t d : Nat} {ti : TI} (hT : TabOk P tab) (ho : o.op = .alloc t) (h1 : tab t = some ti) (h : St w0 A0 A ρ s a w) (hf : s.fresh d) (hz : ∀ (i : Nat) (x : AV), ti.zero[i]? = some x → x.ments = []) :
    Goes P o a w (Sim w0 A0 (s.app o.dst (.ptr d 0) [(d, some { wr := true, app := false, c := .agg ti.zero, e := t })])) := by
  obtain ⟨i, z, hi, hs1, hs2, hs3, hs4, hs5, hs6⟩ := (hT t ti h1).info
  refine goes_new (cells := z.cells) h hf ?_ rfl (fun j x hx => ?_) ?_
  · simp [execOp, ho, Instr.alloc, zeroValue, typeInfo, hi, hs3, newVar, newRow]
  · have hlt := (List.getElem?_eq_some_iff.1 hx).1
    obtain ⟨h2, h3⟩ := hs6 ρ A w j x hx
    exact ⟨by omega, h3, h2⟩
  · intro hm
    obtain ⟨i, x, hx, hd⟩ := mentsL_of (by simpa [AV.ments] using hm)
    rw [hz i x hx] at hd
    cases hd

theorem ok_box {t d : Nat} {x : Operand} {cs : List AV} (ho : o.op = .box t x) (h : St w0 A0 A ρ s a w) (hf : s.fresh d) (hc : (s.ev x).cellsOf = some cs) :
    Goes P o a w (Sim w0 A0 (s.app o.dst (.ptr d 0) [(d, some { wr := true, app := false, c := .agg cs, e := t })])) := by
  obtain ⟨h1, h2⟩ := (h.ev x).cells hc
  refine goes_new (cells := (a.eval x).cells) h hf ?_ rfl (fun j y hy => ?_) ?_
  · simp [execOp, ho, Instr.box, newVar, newRow]
  · have hlt := (List.getElem?_eq_some_iff.1 hy).1
    exact ⟨by omega, h2 j y hy⟩
  · intro hm
    obtain ⟨i, y, hy, hd'⟩ := mentsL_of (by simpa [AV.ments] using hm)
    exact fresh_ev hf x (cellsOf_ments hc hy hd')

/-- Cells written into what a variable or a row holds. -/
theorem setAt_cell? {c c' : AV} {off : Nat} {xs : List AV} (h : c.setAt off xs = some c') (hl : off + xs.length ≤ c.ncells) (hb : ∀ bs, c = .slB bs → ∀ n, xs = [.int .u8 n] → 0 ≤ n ∧ n ≤ 255) :
    c'.rowlen = c.rowlen ∧ c'.esz = c.esz ∧ ∀ i y, c'.cell? i = some y → if off ≤ i ∧ i < off + xs.length then xs[i - off]? = some y else c.cell? i = some y := by
  unfold AV.setAt at h
  split at h
  · cases h
    refine ⟨rfl, rfl, fun i y hy => ?_⟩
    simp only [AV.cell?, setL_getElem?] at hy
    simp only [AV.ncells] at hl
    by_cases hi : off ≤ i ∧ i < off + xs.length
    · rw [if_pos ⟨hi.1, hi.2, by omega⟩] at hy; rw [if_pos hi]; exact hy
    · rw [if_neg (by omega)] at hy; rw [if_neg hi]; exact hy
  · cases h
    rename_i sz cs _
    refine ⟨by simp [AV.rowlen, setL_length], rfl, fun i y hy => ?_⟩
    simp only [AV.cell?, setL_getElem?] at hy
    simp only [AV.ncells] at hl
    by_cases hi : off ≤ i ∧ i < off + xs.length
    · rw [if_pos ⟨hi.1, hi.2, by omega⟩] at hy; rw [if_pos hi]; exact hy
    · rw [if_neg (by omega)] at hy; rw [if_neg hi]; exact hy
  · cases h
    rename_i ls l
    refine ⟨by simp [AV.rowlen], rfl, fun i y hy => ?_⟩
    simp only [AV.cell?, List.getElem?_set, Option.map_eq_some_iff] at hy ⊢
    simp only [AV.ncells, List.length_cons, List.length_nil] at hl ⊢
    obtain ⟨z, hz, rfl⟩ := hy
    by_cases hi : off = i
    · subst hi
      rw [if_pos rfl, if_pos (by omega)] at hz
      cases hz
      rw [if_pos (by omega)]; simp
    · rw [if_neg hi] at hz
      rw [if_neg (by omega)]
      exact ⟨z, hz, rfl⟩
  · cases h
    rename_i ls n
    refine ⟨by simp [AV.rowlen], rfl, fun i y hy => ?_⟩
    simp only [AV.cell?, List.getElem?_set, Option.map_eq_some_iff] at hy ⊢
    simp only [AV.ncells, List.length_cons, List.length_nil] at hl ⊢
    obtain ⟨z, hz, rfl⟩ := hy
    by_cases hi : off = i
    · subst hi
      rw [if_pos rfl, if_pos (by omega)] at hz
      cases hz
      rw [if_pos (by omega)]
      have := hb ls rfl n rfl
      have e : (n.toNat : Int) = n := Int.toNat_of_nonneg this.1
      have e2 : (UInt8.ofNat n.toNat).toNat = n.toNat := by
        rw [UInt8.toNat_ofNat']; omega
      simp [e2, e]
    · rw [if_neg hi] at hz
      rw [if_neg (by omega)]
      exact ⟨z, hz, rfl⟩
  · cases h

end
end Go.Proofs.Ytefbgdnobnemkaa.AM
