/-
  Code, on states that are trees.
-/
import Derived.Test.YtefbgdnobnemkaaM31
namespace Go.Proofs.Ytefbgdnobnemkaa.AM
open Go Go.RowKit

/-- From a state that is told so the code comes to an exit and a state that are told so. -/
structure HoldsT (P : Program) (c : Code) (T : TS) (Q : Exit → TS → Prop) : Prop where
  run : T.good = true → Holds P c T.st fun e s => ∃ T', T'.good = true ∧ s = T'.st ∧ Q e T'

def thenT (N : TS → Prop) (Q : Exit → TS → Prop) : Exit → TS → Prop
  | .normal, s => N s
  | e, s => Q e s

def blockT (id : Nat) (Q : Exit → TS → Prop) : Exit → TS → Prop
  | .exit id', s => match Nat.beq id' id with
    | true => Q .normal s
    | false => Q (.exit id') s
  | e, s => Q e s

section
variable {P : Program} {eq2 : TypeId → Bool} {tab : Tab} {ops : Array Oper} {T T' : TS} {Q Q' : Exit → TS → Prop}

theorem Holds.mono {c : Code} {s : AState} {Q Q' : Exit → AState → Prop} (hq : ∀ e s, Q e s → Q' e s) (h : Holds P c s Q) : Holds P c s Q' := ⟨fun w0 A0 a w hs =>
  Go.wp_mono (h.run w0 A0 a w hs) fun _ _ _ ⟨s', h1, h2⟩ => ⟨s', hq _ _ h1, h2⟩⟩

theorem HoldsT.skip (h : Q .normal T) : HoldsT P .skip T Q := ⟨fun hg => .skip ⟨T, hg, rfl, h⟩⟩
theorem HoldsT.ret (h : Q .ret T) : HoldsT P .ret T Q := ⟨fun hg => .ret ⟨T, hg, rfl, h⟩⟩
theorem HoldsT.exit {id : Nat} (h : Q (.exit id) T) : HoldsT P (.exit id) T Q := ⟨fun hg => .exit ⟨T, hg, rfl, h⟩⟩

theorem HoldsT.seq {x y : Code} (h : HoldsT P x T (thenT (fun T => HoldsT P y T Q) Q)) : HoldsT P (.seq x y) T Q := ⟨fun hg => .seq ((h.run hg).mono fun e s hq => by
  obtain ⟨T', hg', rfl, hq⟩ := hq
  cases e with
  | normal => exact hq.run hg'
  | _ => exact ⟨T', hg', rfl, hq⟩)⟩

theorem HoldsT.block {id : Nat} {c : Code} (h : HoldsT P c T (blockT id Q)) : HoldsT P (.block id c) T Q := ⟨fun hg => .block ((h.run hg).mono fun e s hq => by
  obtain ⟨T', hg', rfl, hq⟩ := hq
  cases e with
  | exit id' =>
    simp only [blockT] at hq
    simp only [blockQ]
    cases hb : Nat.beq id' id with
    | true => rw [hb] at hq; exact ⟨T', hg', rfl, hq⟩
    | false => rw [hb] at hq; exact ⟨T', hg', rfl, hq⟩
  | _ => exact ⟨T', hg', rfl, hq⟩)⟩

theorem HoldsT.cond {c : Operand} {x y : Code} {b : Bool} (hc : T.ev c = .bool b) (ht : b = true → HoldsT P x T Q) (hf : b = false → HoldsT P y T Q) : HoldsT P (.cond c x y) T Q := ⟨fun hg =>
  .cond (by rw [TS.st_ev]; exact hc) (fun h => (ht h).run hg) (fun h => (hf h).run hg)⟩
theorem HoldsT.yes {c : Operand} {x y : Code} (hc : T.ev c = .bool true) (h : HoldsT P x T Q) : HoldsT P (.cond c x y) T Q := .cond hc (fun _ => h) (fun h => by cases h)
theorem HoldsT.no {c : Operand} {x y : Code} (hc : T.ev c = .bool false) (h : HoldsT P y T Q) : HoldsT P (.cond c x y) T Q := .cond hc (fun h => by cases h) (fun _ => h)

theorem HoldsT.region (hT : Tabs P eq2 tab) {id : Nat} (h : TRun P eq2 tab ops 0 ops.toList T (fun _ T' => Q .normal T')) : HoldsT P (.region id ops false) T Q := ⟨fun hg => .region hT (h.run hg)⟩

theorem HoldsT.drawn (hT : Tabs P eq2 tab) {id : Nat} (h : TRun P eq2 tab ops 0 ops.toList T (fun tr T' => okTr ops T.st tr = true ∧ Q .normal T')) : HoldsT P (.region id ops true) T Q := ⟨fun hg =>
  .drawn hT ((h.run hg).mono fun _ _ ⟨T', h1, h2, h3, h4⟩ => ⟨h3, T', h1, h2, h4⟩)⟩

theorem TRun.id {i : Nat} {l : List Oper} {K : List (Nat × Foot) → TS → Prop} (h : TRun P eq2 tab ops i l T K) : TRun P eq2 tab ops i l T K := h
theorem HoldsT.id {c : Code} (h : HoldsT P c T Q) : HoldsT P c T Q := h
theorem allProp_T {l : List Prop} (h : allProp l) : allProp (True :: l) := ⟨trivial, h⟩
theorem allProp_C {p : Prop} {l : List Prop} (hp : p) (h : allProp l) : allProp (p :: l) := ⟨hp, h⟩

/-- The function that an operation calls. -/
def calleeOf (T : TS) (o : Oper) : Option FuncId := match o.op with
  | .call c => match c.callee with
    | .value f => match T.ev f with
      | .fn g _ => some g
      | _ => none
    | _ => none
  | _ => none
theorem TRun.toCall (g : FuncId) {i : Nat} {o : Oper} {l : List Oper} {K : List (Nat × Foot) → TS → Prop} (_ : calleeOf T o = some g) (h : TRun P eq2 tab ops i (o :: l) T K) : TRun P eq2 tab ops i (o :: l) T K := h

/-- Less is told of the one than of the other. -/
inductive TTle : TT AV → TT AV → Prop
  | leaf {x y : AV} (h : AVle x y) : TTle (.leaf x) (.leaf y)
  | node {l r l' r' : TT AV} (h1 : TTle l l') (h2 : TTle r r') : TTle (.node l r) (.node l' r')
  | junk (t : TT AV) (k : Nat) : TTle t (J k)
  | same (t : TT AV) : TTle t t
inductive OOle : TT (Option Obj) → TT (Option Obj) → Prop
  | leaf (x : Option Obj) : OOle (.leaf x) (.leaf x)
  | gone (x : Option Obj) : OOle (.leaf x) (.leaf none)
  | node {l r l' r' : TT (Option Obj)} (h1 : OOle l l') (h2 : OOle r r') : OOle (.node l r) (.node l' r')
  | none (t : TT (Option Obj)) (k : Nat) : OOle t (OO k)
  | same (t : TT (Option Obj)) : OOle t t

theorem TTle.get {t t' : TT AV} (h : TTle t t') : ∀ i, AVle (t.get i) (t'.get i) := by
  induction h with
  | leaf h => exact fun _ => h
  | node _ _ ih1 ih2 =>
    intro i
    simp only [TT.get]
    cases Nat.beq (i % 2) 0 with
    | true => exact ih1 _
    | false => exact ih2 _
  | junk t k => intro i; rw [J_get]; exact .junk _
  | same t => exact fun _ => .refl _
theorem OOle.get {t t' : TT (Option Obj)} (h : OOle t t') : ∀ i, t'.get i = Option.none ∨ t'.get i = t.get i := by
  induction h with
  | leaf x => exact fun _ => .inr rfl
  | gone x => exact fun _ => .inl rfl
  | node _ _ ih1 ih2 =>
    intro i
    simp only [TT.get]
    cases Nat.beq (i % 2) 0 with
    | true => exact ih1 _
    | false => exact ih2 _
  | none t k => intro i; rw [OO_get]; exact .inl rfl
  | same t => exact fun _ => .inr rfl

theorem AVles.map {f g : Nat → AV} (h : ∀ i, AVle (f i) (g i)) : ∀ l : List Nat, AVles (l.map f) (l.map g)
  | [] => .nil
  | i :: l => .cons (h i) (AVles.map h l)
theorem Oles.map {f g : Nat → Option Obj} (h : ∀ i, g i = none ∨ g i = f i) : ∀ l : List Nat, Oles (l.map f) (l.map g)
  | [] => .nil
  | i :: l => by
    rw [List.map_cons, List.map_cons]
    rcases h i with h1 | h1 <;> rw [h1]
    · exact .gone (Oles.map h l)
    · exact .same (Oles.map h l)

structure WeakT (T T' : TS) : Prop where
  run : T.good = true → T'.good = true ∧ Weak T.st T'.st

theorem WeakT.of {n k k' : Nat} {t t' : TT AV} {o o' : TT (Option Obj)} (ht : TTle t t') (ho : OOle o o') (hg : (TS.mk n k' t' o').good = true) : WeakT ⟨n, k, t, o⟩ ⟨n, k', t', o'⟩ :=
  ⟨fun _ => ⟨hg, Weak.of (AVles.map ht.get _) (Oles.map ho.get _)⟩⟩
theorem WeakT.trans {T T' T'' : TS} (h : WeakT T T') (h' : WeakT T' T'') : WeakT T T'' := ⟨fun hg => ⟨(h'.run (h.run hg).1).1, (h.run hg).2.trans (h'.run (h.run hg).1).2⟩⟩
theorem WeakT.refl (T : TS) : WeakT T T := ⟨fun hg => ⟨hg, .refl _⟩⟩

/-- A row that is nothing yet is a row of the call, d its name. -/
theorem WeakT.canon {T T1 : TS} (t d : Nat) (e : TypeId) (c : AV) (hc : c.rowlen = some 0) (hcm : c.ncells = 0) (hn : T.tmp t = .nilsl) (hf : T.freshA [d] = true)
    (hs : (T.appF (some t) (.own d 0) [(d, some ⟨true, true, c, e⟩)] some) = some T1) : WeakT T T1 := ⟨fun hg => by
  rw [TS.appF_eq] at hs
  cases hs
  have h1 := TS.app_st hg (some t) (.own d 0) [(d, some ⟨true, true, c, e⟩)]
  refine ⟨h1.2, ?_⟩
  rw [h1.1]
  refine Weak.canon t d e c hc (fun i x h => ?_) (by rw [TS.st_tmp]; exact hn) (by simpa [TS.freshA] using hf) rfl
  have := AV.cell?_lt h
  omega⟩

theorem HoldsT.weak {c : Code} (h : WeakT T T') (hh : HoldsT P c T' Q) : HoldsT P c T Q := ⟨fun hg => .weak (h.run hg).2 (hh.run (h.run hg).1)⟩

/-- A loop whose states are told by a family. -/
theorem HoldsT.loop {c : Code} {α : Type} (shape : α → TS) (m : α → Nat) (ok : α → Prop) (x0 : α) (h0 : WeakT T (shape x0)) (hok : ok x0) (hgood : ∀ x, (shape x).good = true)
    (h : ∀ x, ok x → HoldsT P c (shape x) (thenT (fun T' => ∃ y, (m y < m x ∧ ok y) ∧ WeakT T' (shape y)) Q)) : HoldsT P (.loop c) T Q := .weak h0 ⟨fun hg =>
  .loopF (fun x => (shape x).st) m ok x0 (.refl _) hok fun x hx => ((h x hx).run (hgood x)).mono fun e s hq => by
    obtain ⟨T', hg', rfl, hq⟩ := hq
    cases e with
    | normal =>
      obtain ⟨y, hy, hw⟩ := hq
      exact ⟨y, hy, (hw.run hg').2⟩
    | _ => exact ⟨T', hg', rfl, hq⟩⟩

def resOneT (tab : Tab) (T : TS) : ResultVar → Option AV
  | .tmp t => some (T.tmp t)
  | .cell a t => match tab t, T.tmp a with
    | some ti, .ptr d off => match T.obj d with
      | some o => match o.c with
        | .agg cs => match ti.isAgg with
          | true => match Nat.ble (off + ti.size) cs.length with
            | true => some (.agg ((AV.agg cs).sub off ti.size))
            | false => none
          | false => match Nat.blt off cs.length with
            | true => some ((AV.agg cs).get off)
            | false => none
        | _ => none
      | none => none
    | _, _ => none

def resAllT (tab : Tab) (T : TS) : List ResultVar → Option (List AV)
  | [] => some []
  | r :: rs => match resOneT tab T r, resAllT tab T rs with
    | some x, some xs => some (x :: xs)
    | _, _ => none

def resT (tab : Tab) (T : TS) : List ResultVar → Option AV
  | [r] => resOneT tab T r
  | rs => (resAllT tab T rs).map .tup

theorem resOneT_some {r : ResultVar} {x : AV} (h : resOneT tab T r = some x) : resOne tab T.st r = some x := by
  cases r with
  | tmp t => simp only [resOne, TS.st_tmp]; exact h
  | cell a t =>
    simp only [resOneT] at h
    split at h
    · rename_i ti d off h1 h2
      split at h
      · rename_i o h3
        split at h
        · rename_i cs h4
          simp only [resOne, TS.st_tmp, TS.st_obj, h1, h2, h3, h4]
          split at h
          · rename_i h5
            split at h
            · rename_i h6; cases h; simp only [h5, h6]
            · cases h
          · rename_i h5
            split at h
            · rename_i h6; cases h; simp only [h5, h6]
            · cases h
        · cases h
      · cases h
    · cases h

theorem resAllT_some : ∀ {rs : List ResultVar} {xs : List AV}, resAllT tab T rs = some xs → resAll tab T.st rs = some xs
  | [], xs, h => h
  | r :: rs, xs, h => by
    simp only [resAllT] at h
    split at h
    · rename_i x xs h1 h2
      cases h
      simp only [resAll, resOneT_some h1, resAllT_some h2]
    · cases h

theorem resT_some {rs : List ResultVar} {x : AV} (h : resT tab T rs = some x) : resC tab T.st rs = some x := by
  have gen : ∀ {rs : List ResultVar} {x : AV}, (resAllT tab T rs).map AV.tup = some x → (resAll tab T.st rs).map AV.tup = some x := fun h => by
    rw [Option.map_eq_some_iff] at h
    obtain ⟨xs, h1, rfl⟩ := h
    rw [resAllT_some h1]; rfl
  match rs, h with
  | [], h => exact gen (rs := []) h
  | [r], h => exact resOneT_some h
  | a :: b :: rs, h => exact gen (rs := a :: b :: rs) h

def finT (tab : Tab) (rs : List ResultVar) (r : AV) : Exit → TS → Prop
  | .normal, T => FinC tab rs r T.st
  | .ret, T => FinC tab rs r T.st
  | _, _ => False

theorem FinC.t {tab : Tab} {rs : List ResultVar} {r x y : AV} {T : TS} (hx : resT tab T rs = some x) (h : closeV T.obj 5 x = y) (hc : closeP T.obj 5 x) (hr : AVle y r) : FinC tab rs r T.st :=
  ⟨x, y, resT_some hx, by rw [TS.st_obj]; exact h, by rw [TS.st_obj]; exact hc, hr⟩
theorem FinC.te {tab : Tab} {rs : List ResultVar} {r x y : AV} {T : TS} (hx : resT tab T rs = some x) (h : closeV T.obj 5 x = y) (hc : closeP T.obj 5 x) (hr : y = r) : FinC tab rs r T.st :=
  .t hx h hc (.rfl' hr)

/-- A function's law out of its body's. -/
theorem Pure.ofT (hT : TabOk P tab) {f : FuncId} {fn : Func} {c : Code} {args : List AV} {r : AV} (hf : P.funcs[f]? = some fn) (hb : fn.body = some c) (hg : (fn.name == "runtime.NumGoroutine") = false) (rs : List ResultVar)
    (hrs : fn.results = rs.toArray) (hl : rs.length ≤ 4) (hr : r.ments = []) (T0 : TS) (h0 : T0.st = begin fn.ntmps args) (hg0 : T0.good = true) (h : HoldsT P c T0 (finT tab rs r)) : Pure P f args r :=
  Pure.ofC hT hf hb hg rs hrs hl hr (h0 ▸ (h.run hg0).mono fun e s hq => by
    obtain ⟨T', _, rfl, hq⟩ := hq
    cases e <;> exact hq)

end
end Go.Proofs.Ytefbgdnobnemkaa.AM
