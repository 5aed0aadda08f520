/-
  The abstract machine's states, its types' table, and when a state of the model is told by an abstract one.
-/
import Derived.Test.YtefbgdnobnemkaaM1
namespace Go.Proofs.Ytefbgdnobnemkaa.AM
open Go Go.RowKit

/-- A constant. -/
def absV : Value → AV
  | .int k n => .int k n
  | .bool b => .bool b
  | .string s => .str s.data.toList
  | .slice none 0 0 => .nilsl
  | .pointer none => .nilptr
  | _ => .junk

theorem absV_R (ρ : Rho) (A : Nat → Prop) (w : World) (v : Value) : R ρ A w v (absV v) := by
  unfold absV
  split
  · exact .int _ _
  · exact .bool _
  · rename_i s; exact .str s.data.toList
  · exact .nilsl
  · exact .nilptr
  · exact .junk _

/-- An object of the running call: may it be written, what it holds, its elements' type. -/
structure Obj where
  wr : Bool
  app : Bool
  c : AV
  e : TypeId

structure AState where
  tmps : List AV
  objs : List (Option Obj)

def AState.obj (s : AState) (d : Nat) : Option Obj := s.objs.getD d none

def AState.ev (s : AState) : Operand → AV
  | .tmp t => s.tmps.getD t .junk
  | .const v => absV v
  | .global _ => .junk
  | .func f => .fn f []

def AState.put (s : AState) (d : Option Nat) (x : AV) : AState :=
  match d with
  | some d => { s with tmps := s.tmps.set d x }
  | none => s

def AState.upd (s : AState) (d : Nat) (o : Option Obj) : AState := { s with objs := s.objs.set d o }

/-- Kinds of types. -/
inductive TK where
  | int (k : IntKind)
  | bool
  | str
  | slice (e : TypeId)
  | struct
  | array (n : Nat) (e : TypeId)
  | ptr
  | func
  | other

structure TI where
  k : TK
  size : Nat
  bytes : Nat
  zero : List AV
  flds : List (Nat × TypeId × Nat)

def TI.isAgg (t : TI) : Bool := match t.k with | .struct => true | .array _ _ => true | _ => false

abbrev Tab := TypeId → Option TI

/-- What the table says of a type is so in the program. -/
def TKok (P : Program) (d : TypeDesc) (ti : TI) : Prop :=
  match ti.k with
  | .int k => d = .int k
  | .bool => d = .bool
  | .str => d = .string
  | .slice e => d = .slice e
  | .struct => ∃ fs : Array Field, d = .struct fs ∧ fs.toList.mapM (fun f => (P.info? f.type).map fun i => (f.offset, i.size)) = some (ti.flds.map fun f => (f.1, f.2.2)) ∧ fs.toList.map (fun f => (f.offset, f.type)) = ti.flds.map fun f => (f.1, f.2.1)
  | .array n e => d = .array n e
  | .ptr => ∃ e, d = .pointer e
  | .func => ∃ p r v, d = .func p r v
  | .other => False

theorem mapM_getElem? {α β : Type} {g : α → Option β} : ∀ {l : List α} {r : List β}, l.mapM g = some r → ∀ {j : Nat} {x : α}, l[j]? = some x → ∃ y, r[j]? = some y ∧ g x = some y
  | [], r, h, j, x, hx => by simp at hx
  | a :: l, r, h, j, x, hx => by
    simp only [List.mapM_cons, Option.bind_eq_bind, Option.pure_def] at h
    cases ha : g a with
    | none => simp [ha] at h
    | some b =>
      cases hl : l.mapM g with
      | none => simp [ha, hl] at h
      | some q =>
        simp [ha, hl] at h
        subst h
        cases j with
        | zero => simp at hx; subst hx; exact ⟨b, rfl, ha⟩
        | succ j =>
          simp at hx
          obtain ⟨y, hy, hg⟩ := mapM_getElem? hl hx
          exact ⟨y, by simpa using hy, hg⟩

/-- A field: where it is, its type, its size. -/
theorem TKok.field {P : Program} {fs : Array Field} {ti : TI} (h1 : fs.toList.mapM (fun f => (P.info? f.type).map fun i => (f.offset, i.size)) = some (ti.flds.map fun f => (f.1, f.2.2))) (h2 : fs.toList.map (fun f => (f.offset, f.type)) = ti.flds.map fun f => (f.1, f.2.1))
    {j off sz : Nat} {ft : TypeId} (h : ti.flds[j]? = some (off, ft, sz)) : ∃ f : Field, fs[j]? = some f ∧ f.offset = off ∧ f.type = ft ∧ ∃ i, P.info? ft = some i ∧ i.size = sz := by
  have h3 : (ti.flds.map fun f => (f.1, f.2.1))[j]? = some (off, ft) := by simp [h]
  rw [← h2, List.getElem?_map, Option.map_eq_some_iff] at h3
  obtain ⟨f, hf, hh⟩ := h3
  simp only [Prod.mk.injEq] at hh
  obtain ⟨rfl, rfl⟩ := hh
  obtain ⟨y, hy, hg⟩ := mapM_getElem? h1 hf
  rw [List.getElem?_map, h] at hy
  simp only [Option.map_some, Option.some.injEq] at hy
  subst hy
  rw [Option.map_eq_some_iff] at hg
  obtain ⟨i, hi, hh⟩ := hg
  simp only [Prod.mk.injEq] at hh
  exact ⟨f, by simpa using hf, rfl, rfl, i, hi, hh.2⟩

structure TIok (P : Program) (t : TypeId) (ti : TI) : Prop where
  info : ∃ i z, P.info? t = some i ∧ i.size = ti.size ∧ i.bytes = ti.bytes ∧ i.zero = some z ∧ z.cells.size = ti.size ∧ ti.zero.length = ti.size ∧
    ∀ ρ A w j x, ti.zero[j]? = some x → R ρ A w (z.cells.getD j undef) x ∧ (z.cells.getD j undef).oneCell' = true
  und : ∃ d, P.underlying t = some d ∧ TKok P d ti
  pos : 0 < ti.size
  sz1 : ti.k = .str → ti.size = 1
  zm : ∀ (i : Nat) (x : AV), ti.zero[i]? = some x → x.ments = []

def TabOk (P : Program) (tab : Tab) : Prop := ∀ t ti, tab t = some ti → TIok P t ti

/-- An object's cells as they lie in the world. -/
def ObjOk (ρ : Rho) (A : Nat → Prop) (B0 : Nat) (w : World) (ob : Obj) : RO → Prop
  | .box b => ob.c.rowlen = none ∧ B0 ≤ b ∧ b < w.heap.size ∧ (ob.wr = true → ¬ A b) ∧ (ob.wr = false → A b) ∧
      ∀ i x, ob.c.cell? i = some x → w.frozen? ⟨b, i, none⟩ = false ∧ ∃ v, w.cell? ⟨b, i, none⟩ = some v ∧ v.oneCell' = true ∧ R ρ A w v x
  | .fix b n cap => ob.app = false ∧ n ≤ cap ∧ ob.c.rowlen = some n ∧ B0 ≤ b ∧ b < w.heap.size ∧ (ob.wr = true → ¬ A b) ∧ (ob.wr = false → A b) ∧
      ∀ i x, ob.c.cell? i = some x → w.frozen? ⟨b, i, none⟩ = false ∧ ∃ v, w.cell? ⟨b, i, none⟩ = some v ∧ v.oneCell' = true ∧ R ρ A w v x
  | .row u n => ob.c.rowlen = some n ∧ (∃ vs : List Value, w.ownsRow B0 ob.e ob.c.esz u n vs ∧ ∀ i x, ob.c.cell? i = some x → ∃ v, vs[i]? = some v ∧ v.oneCell' = true ∧ R ρ A w v x) ∧
      ∀ b, u.ownBlock = some b → b < w.heap.size ∧ (ob.wr = true → ¬ A b) ∧ (ob.wr = false → A b)

/-- The model's state is told by the abstract one. B0, w0: the heap's size and the world when the call began. -/
structure St (w0 : World) (A0 A : Nat → Prop) (ρ : Rho) (s : AState) (a : Act) (w : World) : Prop where
  defers : a.defers = []
  len : a.tmps.size = s.tmps.length
  tmps : ∀ i, R ρ A w (a.tmps.getD i undef) (s.tmps.getD i .junk)
  below : Below w0.heap.size w0 w
  bound : ∀ b, A b → b < w.heap.size
  orig : ∀ b, A b → A0 b ∨ w0.heap.size ≤ b
  keep : ∀ b, A0 b → A b
  rbound : ∀ d o b, ρ d = some o → o.blk? = some b → b < w.heap.size
  inj : ∀ d d' o o' b, ρ d = some o → ρ d' = some o' → o.blk? = some b → o'.blk? = some b → d = d'
  objs : ∀ d, match s.obj d with
    | none => True
    | some ob => ∃ o, ρ d = some o ∧ ObjOk ρ A w0.heap.size w ob o

theorem St.ev {w0 : World} {A0 A : Nat → Prop} {ρ : Rho} {s : AState} {a : Act} {w : World} (h : St w0 A0 A ρ s a w) (x : Operand) : R ρ A w (a.eval x) (s.ev x) := by
  cases x with
  | tmp t => exact h.tmps t
  | const v => exact absV_R _ _ _ v
  | global g => exact .junk _
  | func f => exact .fn f #[] [] rfl (by simp)

theorem getD_set {α : Type} (l : List α) (d i : Nat) (x y : α) : (l.set d x).getD i y = if d = i ∧ d < l.length then x else l.getD i y := by
  simp only [List.getD_eq_getElem?_getD, List.getElem?_set]
  by_cases h : d = i
  · subst h
    by_cases h2 : d < l.length
    · simp [h2]
    · simp [h2]
  · simp [h]

theorem getD_setA {α : Type} (l : Array α) (d i : Nat) (x y : α) : (l.setIfInBounds d x).getD i y = if d = i ∧ d < l.size then x else l.getD i y := by
  simp only [Array.getD_eq_getD_getElem?, Array.getElem?_setIfInBounds]
  by_cases h : d = i
  · subst h
    by_cases h2 : d < l.size
    · simp [h2]
    · simp [h2]
  · simp [h]

/-- A value is put into a slot. -/
theorem St.put {w0 : World} {A0 A : Nat → Prop} {ρ : Rho} {s : AState} {a : Act} {w : World} (h : St w0 A0 A ρ s a w) (d : Option Nat) {v : Value} {x : AV} (hv : R ρ A w v x) :
    St w0 A0 A ρ (s.put d x) (a.put d v) w := by
  cases d with
  | none => exact h
  | some d =>
    refine ⟨h.defers, by simp [Act.put, AState.put, h.len], fun i => ?_, h.below, h.bound, h.orig, h.keep, h.rbound, h.inj, h.objs⟩
    simp only [Act.put, AState.put, getD_set, getD_setA, h.len]
    split
    · exact hv
    · exact h.tmps i

/-- What is in no slot and in no object. -/
def AState.fresh (s : AState) (d : Nat) : Prop := (∀ i, d ∉ (s.tmps.getD i .junk).ments) ∧ ∀ d' ob, d' ≠ d → s.obj d' = some ob → d ∉ ob.c.ments

def freshB (s : AState) (d : Nat) : Bool :=
  s.tmps.all (fun x => !x.ments.contains d) && s.objs.all fun o => match o with | none => true | some ob => !ob.c.ments.contains d

theorem fresh_of {s : AState} {d : Nat} (h : freshB s d = true) : s.fresh d := by
  simp only [freshB, Bool.and_eq_true, List.all_eq_true, Bool.not_eq_true', List.contains_eq_mem, decide_eq_false_iff_not] at h
  refine ⟨fun i => ?_, fun d' ob _ ho => ?_⟩
  · rcases Nat.lt_or_ge i s.tmps.length with hi | hi
    · rw [List.getD_eq_getElem?_getD, List.getElem?_eq_getElem hi]; exact h.1 _ (List.getElem_mem hi)
    · simp [List.getD_eq_getElem?_getD, List.getElem?_eq_none hi, AV.ments]
  · unfold AState.obj at ho
    rcases Nat.lt_or_ge d' s.objs.length with hi | hi
    · rw [List.getD_eq_getElem?_getD, List.getElem?_eq_getElem hi] at ho
      have := h.2 _ (List.getElem_mem hi)
      simp only [Option.getD_some] at ho
      rw [ho] at this
      simpa using this
    · simp [List.getD_eq_getElem?_getD, List.getElem?_eq_none hi] at ho

end Go.Proofs.Ytefbgdnobnemkaa.AM
