/-
  The abstract machine: code; states as trees.
-/
import Derived.Test.YtefbgdnobnemkaaK2
import Derived.LoopN
set_option linter.unusedSimpArgs false
set_option linter.unusedVariables false
set_option linter.unusedSectionVars false
namespace Go.Proofs.Ytefbgdnobnemkaa.AM
open Go Go.RowKit

/-- From a state that is told so the code comes to an exit and a state that are told so. -/
structure Holds (P : Program) (c : Code) (s : AState) (Q : Exit → AState → Prop) : Prop where
  run : ∀ w0 A0 a w, Sim w0 A0 s a w → c.wp P (fun e a w => ∃ s', Q e s' ∧ Sim w0 A0 s' a w) a w

def thenQ (N : AState → Prop) (Q : Exit → AState → Prop) : Exit → AState → Prop
  | .normal, s => N s
  | e, s => Q e s

def blockQ (id : Nat) (Q : Exit → AState → Prop) : Exit → AState → Prop
  | .exit id', s => match Nat.beq id' id with
    | true => Q .normal s
    | false => Q (.exit id') s
  | e, s => Q e s

section
variable {P : Program} {eq2 : TypeId → Bool} {tab : Tab} {s s' : AState} {Q : Exit → AState → Prop}

theorem Holds.skip (h : Q .normal s) : Holds P .skip s Q := ⟨fun _ _ _ _ hs => wp_skip ⟨s, h, hs⟩⟩
theorem Holds.ret (h : Q .ret s) : Holds P .ret s Q := ⟨fun _ _ _ _ hs => wp_ret ⟨s, h, hs⟩⟩
theorem Holds.exit {id : Nat} (h : Q (.exit id) s) : Holds P (.exit id) s Q := ⟨fun _ _ _ _ hs => wp_exit ⟨s, h, hs⟩⟩

theorem Holds.seq {x y : Code} (h : Holds P x s (thenQ (fun s => Holds P y s Q) Q)) : Holds P (.seq x y) s Q := ⟨fun w0 A0 a w hs => by
  refine wp_seq (Go.wp_mono (h.run w0 A0 a w hs) fun e a w hq => ?_)
  obtain ⟨s', hq, hs'⟩ := hq
  cases e with
  | normal => exact hq.run w0 A0 a w hs'
  | _ => exact ⟨s', hq, hs'⟩⟩

theorem Holds.block {id : Nat} {c : Code} (h : Holds P c s (blockQ id Q)) : Holds P (.block id c) s Q := ⟨fun w0 A0 a w hs => by
  refine wp_block (Go.wp_mono (h.run w0 A0 a w hs) fun e a w hq => ?_)
  obtain ⟨s', hq, hs'⟩ := hq
  cases e with
  | exit id' =>
    simp only [Exit.inBlock]
    by_cases he : id' = id
    · subst he
      simp only [blockQ, Nat.beq_refl] at hq
      rw [if_pos rfl]; exact ⟨s', hq, hs'⟩
    · have : Nat.beq id' id = false := by
        cases hb : Nat.beq id' id with
        | false => rfl
        | true => exact absurd (Nat.eq_of_beq_eq_true hb) he
      simp only [blockQ, this] at hq
      rw [if_neg he]; exact ⟨s', hq, hs'⟩
  | _ => exact ⟨s', hq, hs'⟩⟩

theorem Holds.cond {c : Operand} {x y : Code} {b : Bool} (hc : s.ev c = .bool b) (ht : b = true → Holds P x s Q) (hf : b = false → Holds P y s Q) : Holds P (.cond c x y) s Q := ⟨fun w0 A0 a w hs => by
  obtain ⟨A, ρ, hs'⟩ := id hs
  have : a.eval c = .bool b := (hc ▸ hs'.ev c : R ρ A w (a.eval c) (.bool b)).bool_inv
  exact wp_cond_split this (fun h => (ht h).run w0 A0 a w hs) (fun h => (hf h).run w0 A0 a w hs)⟩
theorem Holds.cond_true {c : Operand} {x y : Code} (hc : s.ev c = .bool true) (h : Holds P x s Q) : Holds P (.cond c x y) s Q := .cond hc (fun _ => h) (fun h => by cases h)
theorem Holds.cond_false {c : Operand} {x y : Code} (hc : s.ev c = .bool false) (h : Holds P y s Q) : Holds P (.cond c x y) s Q := .cond hc (fun h => by cases h) (fun _ => h)

theorem Holds.conv {c : Code} (h : s = s') (hh : Holds P c s' Q) : Holds P c s Q := h ▸ hh

/-- Less is told of a state. -/
structure Weak (s s' : AState) : Prop where
  run : ∀ w0 A0 a w, Sim w0 A0 s a w → Sim w0 A0 s' a w

theorem Weak.refl (s : AState) : Weak s s := ⟨fun _ _ _ _ h => h⟩

theorem Holds.weak {c : Code} (h : Weak s s') (hh : Holds P c s' Q) : Holds P c s Q := ⟨fun w0 A0 a w hs => hh.run w0 A0 a w (h.run w0 A0 a w hs)⟩

theorem exists_least {J : Nat → Prop} : ∀ n, J n → ∃ m, J m ∧ ∀ k, J k → m ≤ k := by
  intro n
  induction n using Nat.strongRecOn with
  | _ n ih =>
    intro hn
    by_cases h : ∃ k, k < n ∧ J k
    · obtain ⟨k, hk, hJ⟩ := h
      exact ih k hk hJ
    · exact ⟨n, hn, fun k hk => Nat.le_of_not_lt fun hlt => h ⟨k, hlt, hk⟩⟩

open Classical in
theorem Holds.loop {c : Code} (I : Nat → AState → Prop)
    (h : ∀ n s, I n s → Holds P c s (thenQ (fun s' => ∃ m s'', m < n ∧ Weak s' s'' ∧ I m s'') Q)) {n : Nat} (hn : I n s) : Holds P (.loop c) s Q := ⟨fun w0 A0 a w hs => by
  let J : Act → World → Nat → Prop := fun a w n => ∃ s, I n s ∧ Sim w0 A0 s a w
  have hl : ∀ a w, (∃ n, J a w n) → ∃ m, J a w m ∧ ∀ k, J a w k → m ≤ k := fun a w ⟨n, hn⟩ => exists_least n hn
  let μ : Act → World → Nat := fun a w => if h : ∃ n, J a w n then Classical.choose (hl a w h) else 0
  have hμ : ∀ a w (h : ∃ n, J a w n), J a w (μ a w) ∧ ∀ k, J a w k → μ a w ≤ k := fun a w h => by
    have : μ a w = Classical.choose (hl a w h) := dif_pos h
    rw [this]
    exact Classical.choose_spec (hl a w h)
  refine wp_loop (fun a w => ∃ n, J a w n) μ ⟨n, s, hn, hs⟩ fun a w hI => ?_
  obtain ⟨⟨s, h1, h2⟩, _⟩ := hμ a w hI
  refine Go.wp_mono ((h _ s h1).run w0 A0 a w h2) fun e a' w' hq => ?_
  obtain ⟨s', hq, hs'⟩ := hq
  cases e with
  | normal =>
    obtain ⟨m, s'', hm, hw, hi⟩ := hq
    have hJ : J a' w' m := ⟨s'', hi, hw.run w0 A0 a' w' hs'⟩
    exact ⟨⟨m, hJ⟩, Nat.lt_of_le_of_lt ((hμ a' w' ⟨m, hJ⟩).2 m hJ) hm⟩
  | _ => exact ⟨s', hq, hs'⟩⟩

/-- The rest of a region's operations, in the text's order. -/
structure ARun (P : Program) (eq2 : TypeId → Bool) (tab : Tab) (ops : Array Oper) (i : Nat) (l : List Oper) (s : AState) (K : List (Nat × Foot) → AState → Prop) : Prop where
  run : (∀ j, l[j]? = ops[i + j]?) → ∃ tr s', Run P eq2 tab ops s tr s' ∧ tr.map (·.1) = List.range' i l.length ∧ K tr s'

variable {ops : Array Oper} {i : Nat} {l : List Oper} {K : List (Nat × Foot) → AState → Prop} {o : Oper} {s1 : AState}

theorem ARun.nil (h : K [] s) : ARun P eq2 tab ops i [] s K := ⟨fun _ => ⟨[], s, .nil, rfl, h⟩⟩

theorem ARun.step {v : AV} {u : List (Nat × Option Obj)} {f : Foot} (hd : Does P eq2 tab ops o s v u f) (hs : s.app o.dst v u = s1)
    (h : ARun P eq2 tab ops (i + 1) l s1 (fun tr s' => K ((i, f) :: tr) s')) : ARun P eq2 tab ops i (o :: l) s K := ⟨fun hl => by
  obtain ⟨tr, s', h1, h2, h3⟩ := h.run (fun j => by have := hl (j + 1); simpa [Nat.add_assoc, Nat.add_comm 1 j] using this)
  refine ⟨(i, f) :: tr, s', .cons (by simpa using (hl 0).symm) ⟨v, u, hd, hs.symm⟩ h1, ?_, h3⟩
  simp [h2, List.range'_succ]⟩

theorem ARun.skip (hw : wantB ops o s = some false) (hs : s.app o.dst (.tup []) [] = s1) (h : ARun P eq2 tab ops (i + 1) l s1 (fun tr s' => K ((i, ⟨[], [], []⟩) :: tr) s')) : ARun P eq2 tab ops i (o :: l) s K :=
  .step (.skip hw) hs h

theorem ARun.val {pre : Prop} {v : AV} {u : List (Nat × Option Obj)} {n : List Nat} (hw : wantB ops o s = some true) (hx : aop eq2 tab o s.ev s.obj = .val pre v u n) (hf : n.all (freshB s) = true) (hs : s.app o.dst v u = s1) (hp : pre)
    (h : ARun P eq2 tab ops (i + 1) l s1 (fun tr s' => K ((i, ⟨opMents o s.ev, u.map (·.1), n⟩) :: tr) s')) : ARun P eq2 tab ops i (o :: l) s K :=
  .step (.val hw hx hp (fun d hd => fresh_of (List.all_eq_true.1 hf d hd))) hs h

theorem ARun.test {φ : Prop} {d : Decidable φ} (hw : wantB ops o s = some true) (hx : aop eq2 tab o s.ev s.obj = .test φ d) (hs : s.app o.dst (.bool (decide φ)) [] = s1)
    (h : ARun P eq2 tab ops (i + 1) l s1 (fun tr s' => K ((i, ⟨opMents o s.ev, [], []⟩) :: tr) s')) : ARun P eq2 tab ops i (o :: l) s K :=
  .step (.test hw hx) hs h

theorem ARun.split {φ : Prop} {d : Decidable φ} {s2 : AState} (hw : wantB ops o s = some true) (hx : aop eq2 tab o s.ev s.obj = .test φ d) (hs : s.app o.dst (.bool true) [] = s1) (hs2 : s.app o.dst (.bool false) [] = s2)
    (h : φ → ARun P eq2 tab ops (i + 1) l s1 (fun tr s' => K ((i, ⟨opMents o s.ev, [], []⟩) :: tr) s')) (h2 : ¬ φ → ARun P eq2 tab ops (i + 1) l s2 (fun tr s' => K ((i, ⟨opMents o s.ev, [], []⟩) :: tr) s')) : ARun P eq2 tab ops i (o :: l) s K := by
  by_cases hφ : φ
  · exact .test hw hx (by rw [decide_eq_true hφ]; exact hs) (h hφ)
  · exact .test hw hx (by rw [decide_eq_false hφ]; exact hs2) (h2 hφ)

theorem ARun.call {c : Call} {fop : Operand} {g : FuncId} {caps : List AV} {r : AV} {args : List AV} (hw : wantB ops o s = some true) (ho : o.op = .call c) (hc : c.callee = .value fop) (hg : s.ev fop = .fn g caps)
    (ha : (callArgs c caps s.ev).map (closeV s.obj 5) = args) (hm : mentsL args = []) (hr : Pure P g args r) (hcl : allP (closeP s.obj 5) (callArgs c caps s.ev))
    (hs : s.app o.dst r (match r.flat with | true => [] | false => frz s ((callArgs c caps s.ev).flatMap (visits s.obj 5))) = s1)
    (h : ARun P eq2 tab ops (i + 1) l s1 (fun tr s' => K ((i, ⟨opMents o s.ev ++ (callArgs c caps s.ev).flatMap (visits s.obj 5), match r.flat with | true => [] | false => (callArgs c caps s.ev).flatMap (visits s.obj 5), []⟩) :: tr) s')) : ARun P eq2 tab ops i (o :: l) s K := by
  subst ha
  have := Does.call (P := P) (eq2 := eq2) (tab := tab) (ops := ops) (o := o) (s := s) (r := r) hw ho hc hg hcl hm hr
  refine ARun.step (s1 := s1) this ?_ ?_
  · rw [← hs]
    cases r.flat <;> rfl
  · have e : (if r.flat = true then [] else (callArgs c caps s.ev).flatMap (visits s.obj 5)) = (match r.flat with | true => [] | false => (callArgs c caps s.ev).flatMap (visits s.obj 5)) := by cases r.flat <;> rfl
    rw [e]; exact h

/-- The checks of an order that is drawn. -/
def okTr (ops : Array Oper) (s : AState) (tr : List (Nat × Foot)) : Bool := backB ops && pairB (apartB ops) tr && tr.all fun p => p.2.new.all (freshB s)
 where pairB (r : Nat × Foot → Nat × Foot → Bool) : List (Nat × Foot) → Bool
  | [] => true
  | p :: l => l.all (r p) && pairB r l

theorem pairB_spec {r : Nat × Foot → Nat × Foot → Bool} : ∀ {l : List (Nat × Foot)}, okTr.pairB r l = true → l.Pairwise fun p q => r p q = true
  | [], _ => .nil
  | p :: l, h => by
    simp only [okTr.pairB, Bool.and_eq_true, List.all_eq_true] at h
    exact .cons h.1 (pairB_spec h.2)

/-- A type table's facts, once for a program. -/
structure Tabs (P : Program) (eq2 : TypeId → Bool) (tab : Tab) : Prop where
  tab : TabOk P tab
  eq2 : Eq2Ok P eq2
  draw : P.follows .mixedOrders = true

theorem Tabs.zero (h : Tabs P eq2 tab) : ∀ t ti x, tab t = some ti → x ∉ mentsL ti.zero := by
  intro t ti x ht hx
  have := (h.tab t ti ht).zm
  have key : ∀ l : List AV, (∀ (i : Nat) (y : AV), l[i]? = some y → y.ments = []) → x ∉ mentsL l := by
    intro l
    induction l with
    | nil => intro _ h; cases h
    | cons y l ih =>
      intro hh h
      simp only [mentsL, List.mem_append] at h
      rcases h with h | h
      · rw [hh 0 y (by simp)] at h; cases h
      · exact ih (fun i y hy => hh (i + 1) y (by simpa using hy)) h
  exact key _ this hx

theorem run_wpOps (hT : Tabs P eq2 tab) {w0 : World} {A0 : Nat → Prop} {Q : Exit → Act → World → Prop} : ∀ {tr : List (Nat × Foot)} {s : AState}, Run P eq2 tab ops s tr s' → (∀ a w, Sim w0 A0 s' a w → Q .normal a w) → ∀ {a : Act} {w : World}, Sim w0 A0 s a w → wpOps P ops Q (tr.map (·.1)) a w
  | _, _, .nil, hQ, a, w, hs => hQ a w hs
  | _, _, .cons ho h hr, hQ, a, w, hs => by
    rw [List.map_cons, wpOps_cons]
    exact Step.wpOp hT.tab hT.eq2 ho h hs fun a w hs' => run_wpOps hT hr hQ hs'

theorem Holds.region (hT : Tabs P eq2 tab) {id : Nat} (h : ARun P eq2 tab ops 0 ops.toList s (fun _ s' => Q .normal s')) : Holds P (.region id ops false) s Q := ⟨fun w0 A0 a w hs => by
  obtain ⟨tr, s', h1, h2, h3⟩ := h.run (by simp)
  refine wp_region ?_
  have := run_wpOps hT (Q := fun e a w => ∃ s', Q e s' ∧ Sim w0 A0 s' a w) h1 (fun a w hs => ⟨s', h3, hs⟩) hs
  rw [h2] at this
  rw [List.range_eq_range']
  simpa using this⟩

theorem Holds.drawn (hT : Tabs P eq2 tab) {id : Nat} (h : ARun P eq2 tab ops 0 ops.toList s (fun tr s' => okTr ops s tr = true ∧ Q .normal s')) : Holds P (.region id ops true) s Q := ⟨fun w0 A0 a w hs => by
  obtain ⟨tr, s', h1, h2, h3, h4⟩ := h.run (by simp)
  simp only [okTr, Bool.and_eq_true, List.all_eq_true] at h3
  obtain ⟨⟨h5, h6⟩, h7⟩ := h3
  have hlen : tr.length = ops.size := by
    have := congrArg List.length h2
    simpa using this
  refine wp_region_any hT.draw (any_order (w0 := w0) (A0 := A0) (s' := s') hT.tab hT.eq2 hT.zero h5 (Q := fun e a w => ∃ s', Q e s' ∧ Sim w0 A0 s' a w) (fun a w hs => ⟨s', h4, hs⟩) ops.size tr _ s a _ (by omega) (by simp) (fun i => ?_) ?_ (pairB_spec h6) (fun p hp d hd => fresh_of (h7 p hp d hd)) h1 ?_)
  · rw [h2]
    simp only [Array.length_toList, List.mem_range'_1, Nat.zero_add, Nat.zero_le, true_and]
    rcases Nat.lt_or_ge i ops.size with hi | hi
    · simp [hi]
    · simp [Nat.not_lt.2 hi, hi]
  · have : (tr.map (·.1)).Pairwise (· < ·) := by rw [h2]; exact List.pairwise_lt_range'
    exact List.pairwise_map.1 this
  · obtain ⟨A, ρ, hs⟩ := hs
    exact ⟨A, ρ, hs.grow (Below.drew (Below.refl _ _))⟩⟩

end
end Go.Proofs.Ytefbgdnobnemkaa.AM

namespace Go.Proofs.Ytefbgdnobnemkaa.AM
open Go Go.RowKit

def resV (ts : List Tmp) (tmps : Array Value) : Value :=
  match ts with
  | [t] => tmps.getD t undef
  | ts => .tuple (ts.map fun t => tmps.getD t undef).toArray

/-- What a function that has come to its end returns. -/
def resAV (ts : List Tmp) (s : AState) : AV :=
  match ts with
  | [t] => s.tmps.getD t .junk
  | ts => .tup (ts.map fun t => s.tmps.getD t .junk)

/-- A function's end: the result, closed, is this. -/
structure Fin (ts : List Tmp) (r : AV) (s : AState) : Prop where
  close : closeV s.obj 5 (resAV ts s) = r
  need : closeP s.obj 5 (resAV ts s)

def finQ (ts : List Tmp) (r : AV) : Exit → AState → Prop
  | .normal, s => Fin ts r s
  | .ret, s => Fin ts r s
  | _, _ => False

def begin (n : Nat) (args : List AV) : AState := ⟨args ++ List.replicate (n - args.length) .junk, List.replicate n none⟩

theorem resultsV {P : Program} {w : World} {tmps : Array Value} {fn : Func} {ts : List Tmp} (h : fn.results = (ts.map .tmp).toArray) (hl : ts.length ≤ 5) :
    (results fn tmps).run P w = .ok (resV ts tmps) w := by
  match ts, hl with
  | [], _ => simp [results, h, resV]
  | [a], _ => simp [results, h, resV]
  | [a, b], _ => simp [results, h, resV]
  | [a, b, c], _ => simp [results, h, resV]
  | [a, b, c, d], _ => simp [results, h, resV]
  | [a, b, c, d, e], _ => simp [results, h, resV]

theorem resAV_R {w0 : World} {A0 A : Nat → Prop} {ρ : Rho} {s : AState} {a : Act} {w : World} (h : St w0 A0 A ρ s a w) (ts : List Tmp) : R ρ A w (resV ts a.tmps) (resAV ts s) := by
  have key : ∀ ts : List Tmp, R ρ A w (.tuple (ts.map fun t => a.tmps.getD t undef).toArray) (.tup (ts.map fun t => s.tmps.getD t .junk)) := fun ts => by
    refine .tup _ _ (by simp) fun i x hx => ?_
    rw [List.getElem?_map, Option.map_eq_some_iff] at hx
    obtain ⟨t, ht, rfl⟩ := hx
    have : (ts.map fun t => a.tmps.getD t undef).toArray.getD i undef = a.tmps.getD t undef := by
      simp [ht]
    rw [this]
    exact h.tmps t
  unfold resV resAV
  match ts with
  | [] => exact key []
  | [t] => exact h.tmps t
  | a :: b :: l => exact key (a :: b :: l)

theorem St.begin {A : Nat → Prop} {w : World} {vs : Array Value} {args : List AV} {n : Nat} (hA : ∀ b, A b → b < w.heap.size) (hl : vs.size = args.length) (h : ∀ i x, args[i]? = some x → R noRho A w (vs.getD i undef) x) :
    St w A A noRho (begin n args) { tmps := vs ++ Array.replicate (n - vs.size) undef, defers := [] } w := by
  refine ⟨rfl, by simp [AM.begin, hl], fun i => ?_, .refl _ _, hA, fun b hb => .inl hb, fun b hb => hb, fun d o b h => (by cases h), fun d d' o o' b h => (by cases h), fun d => ?_⟩
  · simp only [AM.begin]
    rcases Nat.lt_or_ge i args.length with hi | hi
    · have e1 : (vs ++ Array.replicate (n - vs.size) undef).getD i undef = vs.getD i undef := by
        simp [Array.getElem?_append, hl, hi]
      have e2 : (args ++ List.replicate (n - args.length) AV.junk).getD i .junk = args[i] := by
        simp [List.getElem?_append, hi]
      rw [e1, e2]
      exact h i _ (List.getElem?_eq_getElem hi)
    · have e2 : (args ++ List.replicate (n - args.length) AV.junk).getD i .junk = .junk := by
        rw [List.getD_eq_getElem?_getD, List.getElem?_append_right hi, List.getElem?_replicate]
        split <;> rfl
      rw [e2]; exact .junk _
  · have : (AM.begin n args).obj d = none := by
      simp only [AM.begin, AState.obj, List.getD_eq_getElem?_getD, List.getElem?_replicate]
      split <;> rfl
    rw [this]; trivial

/-- A function's law out of its body's. -/
theorem Pure.of {P : Program} {f : FuncId} {fn : Func} {c : Code} {args : List AV} {r : AV} (hf : P.funcs[f]? = some fn) (hb : fn.body = some c) (hg : (fn.name == "runtime.NumGoroutine") = false) (ts : List Tmp)
    (hts : fn.results = (ts.map .tmp).toArray) (hl : ts.length ≤ 5) (hr : r.ments = []) (h : Holds P c (begin fn.ntmps args) (finQ ts r)) : Pure P f args r := by
  refine ⟨hr, ⟨fn, hf, hg, by rw [hb]; rfl⟩, fun A w vs hA hvl hv => calls_of_wp hf hb (Go.wp_mono (h.run w A _ w ⟨A, noRho, St.begin hA hvl hv⟩) fun e a w' hq => ?_)⟩
  obtain ⟨s', hq, A1, ρ, hs⟩ := hq
  have key : Fin ts r s' → a.defers = [] ∧ ∃ v, (results fn a.tmps).run P w' = .ok v w' ∧ ∃ v', Ending.returned v = .returned v' ∧ R noRho (fun b => A b ∨ (w.heap.size ≤ b ∧ b < w'.heap.size)) w' v' r ∧ Below w.heap.size w w' := fun hfin => by
    refine ⟨hs.defers, _, resultsV hts hl, _, rfl, ?_, hs.below⟩
    have hle : ∀ b, A1 b → (A b ∨ (w.heap.size ≤ b ∧ b < w'.heap.size)) := fun b hb => by
      rcases hs.orig b hb with h1 | h1
      · exact .inl h1
      · exact .inr ⟨h1, hs.bound b hb⟩
    have := close_R hs (A' := fun b => A b ∨ (w.heap.size ≤ b ∧ b < w'.heap.size)) hle 5 ((resAV_R hs ts).mono hle (fun _ _ => rfl) (fun _ _ => rfl)) hfin.need (fun d _ o b hsome hro hbo => by
      have h1 := hs.objs d
      cases hob : s'.obj d with
      | none => rw [hob] at hsome; cases hsome
      | some ob =>
        rw [hob] at h1
        obtain ⟨o', ho', hok⟩ := h1
        rw [hro] at ho'; cases ho'
        refine .inr ⟨?_, hs.rbound d o b hro hbo⟩
        cases o with
        | box b' => cases hbo; exact hok.2.1
        | fix b' n cap => cases hbo; exact hok.2.2.2.1
        | row u n =>
          obtain ⟨_, ⟨vs, h1, _⟩, _⟩ := hok
          rcases h1.2 with ⟨rfl, _⟩ | ⟨g, cap, cur, rfl, h2, _⟩
          · cases hbo
          · cases hbo; exact h2)
    rw [hfin.close] at this
    exact this.mono (fun _ h => h) (fun _ _ => rfl) (fun d hd => by rw [hr] at hd; cases hd)
  cases e with
  | normal => exact key hq
  | ret => exact key hq
  | exit id => exact hq.elim
  | goto l => exact hq.elim
  | panic c => exact hq.elim
  | outgrown => exact hq.elim

end Go.Proofs.Ytefbgdnobnemkaa.AM

namespace Go.Proofs.Ytefbgdnobnemkaa.AM
open Go Go.RowKit

theorem TIok.mk' {P : Program} {t : TypeId} {ti : TI} {i : TypeInfo} {z : Value} {d : TypeDesc} (hi : P.info? t = some i) (h1 : i.size = ti.size) (h2 : i.bytes = ti.bytes) (hz : i.zero = some z) (hsz : z.cells.size = ti.size)
    (hzero : ti.zero = z.cells.toList.map absV) (hone : z.cells.toList.all Value.oneCell' = true) (hpos : 0 < ti.size) (hu : P.underlying t = some d) (hk : TKok P d ti) (hs : ti.k = .str → ti.size = 1) : TIok P t ti := by
  refine ⟨⟨i, z, hi, h1, h2, hz, hsz, by rw [hzero]; simpa using hsz, fun ρ A w j x hx => ?_⟩, ⟨d, hu, hk⟩, hpos, hs, fun j x hx => ?_⟩
  · rw [hzero, List.getElem?_map, Option.map_eq_some_iff] at hx
    obtain ⟨v, hv, rfl⟩ := hx
    have hv' : z.cells[j]? = some v := by rw [← Array.getElem?_toList]; exact hv
    have e : z.cells.getD j undef = v := by simp [hv']
    rw [e]
    exact ⟨absV_R _ _ _ _, List.all_eq_true.1 hone v (List.mem_of_getElem? hv)⟩
  · rw [hzero, List.getElem?_map, Option.map_eq_some_iff] at hx
    obtain ⟨v, hv, rfl⟩ := hx
    exact absV_ments v

end Go.Proofs.Ytefbgdnobnemkaa.AM

namespace Go.Proofs.Ytefbgdnobnemkaa.AM
open Go Go.RowKit

def forceH {α : Type} (x : AV) (k : AV → α) : α :=
  match x with
  | .junk => k .junk
  | .int a b => k (.int a b)
  | .bool b => k (.bool b)
  | .str l => k (.str l)
  | .nilsl => k .nilsl
  | .nilptr => k .nilptr
  | .slS l => k (.slS l)
  | .slB l => k (.slB l)
  | .slG a b => k (.slG a b)
  | .cptr a b => k (.cptr a b)
  | .agg l => k (.agg l)
  | .tup l => k (.tup l)
  | .fn f l => k (.fn f l)
  | .ptr a b => k (.ptr a b)
  | .own a b => k (.own a b)
  | .eptr a b c => k (.eptr a b c)

theorem forceH_eq {α : Type} (x : AV) (k : AV → α) : forceH x k = k x := by cases x <;> rfl

def forceL {α : Type} : List AV → (List AV → α) → α
  | [], k => k []
  | x :: xs, k => forceH x fun x => forceL xs fun xs => k (x :: xs)

theorem forceL_eq {α : Type} : ∀ (xs : List AV) (k : List AV → α), forceL xs k = k xs
  | [], _ => rfl
  | x :: xs, k => by simp only [forceL, forceH_eq, forceL_eq xs]

def forceAV {α : Type} (x : AV) (k : AV → α) : α :=
  match x with
  | .junk => k .junk
  | .int a b => k (.int a b)
  | .bool b => k (.bool b)
  | .str l => k (.str l)
  | .nilsl => k .nilsl
  | .nilptr => k .nilptr
  | .slS l => k (.slS l)
  | .slB l => k (.slB l)
  | .slG a b => k (.slG a b)
  | .cptr a b => k (.cptr a b)
  | .agg l => forceL l fun l => k (.agg l)
  | .tup l => forceL l fun l => k (.tup l)
  | .fn f l => forceL l fun l => k (.fn f l)
  | .ptr a b => k (.ptr a b)
  | .own a b => k (.own a b)
  | .eptr a b c => k (.eptr a b c)

theorem forceAV_eq {α : Type} (x : AV) (k : AV → α) : forceAV x k = k x := by cases x <;> simp only [forceAV, forceL_eq]

def forceB {α : Type} (b : Bool) (k : Bool → α) : α := match b with | true => k true | false => k false
theorem forceB_eq {α : Type} (b : Bool) (k : Bool → α) : forceB b k = k b := by cases b <;> rfl

def forceN {α : Type} (n : Nat) (k : Nat → α) : α := match n with | 0 => k 0 | m + 1 => k (m + 1)
theorem forceN_eq {α : Type} (n : Nat) (k : Nat → α) : forceN n k = k n := by cases n <;> rfl

def forceO {α : Type} (o : Obj) (k : Obj → α) : α := match o with | ⟨a, b, c, e⟩ => forceB a fun a => forceB b fun b => forceAV c fun c => forceN e fun e => k ⟨a, b, c, e⟩
theorem forceO_eq {α : Type} (o : Obj) (k : Obj → α) : forceO o k = k o := by cases o; simp only [forceO, forceB_eq, forceAV_eq, forceN_eq]

def forceU {α : Type} (u : List (Nat × Option Obj)) (k : List (Nat × Option Obj) → α) : α :=
  match u with
  | [] => k []
  | [(d, some o)] => forceO o fun o => k [(d, some o)]
  | u => k u
theorem forceU_eq {α : Type} (u : List (Nat × Option Obj)) (k : List (Nat × Option Obj) → α) : forceU u k = k u := by
  unfold forceU
  split <;> simp only [forceO_eq]

def AOut.force (x : AOut) : AOut :=
  match x with
  | .val pre v u n => forceAV v fun v => forceU u fun u => .val pre v u n
  | .test φ d => .test φ d
  | .fail => .fail

theorem AOut.force_eq (x : AOut) : x.force = x := by cases x <;> simp only [AOut.force, forceAV_eq, forceU_eq]

section
variable {P : Program} {eq2 : TypeId → Bool} {tab : Tab} {s s1 : AState} {ops : Array Oper} {i : Nat} {l : List Oper} {K : List (Nat × Foot) → AState → Prop} {o : Oper}

theorem ARun.valF {pre : Prop} {v : AV} {u : List (Nat × Option Obj)} {n : List Nat} (hw : wantB ops o s = some true) (hx : (aop eq2 tab o s.ev s.obj).force = .val pre v u n) (hf : n.all (freshB s) = true) (hs : s.app o.dst v u = s1) (hp : pre)
    (h : ARun P eq2 tab ops (i + 1) l s1 (fun tr s' => K ((i, ⟨opMents o s.ev, u.map (·.1), n⟩) :: tr) s')) : ARun P eq2 tab ops i (o :: l) s K :=
  .val hw (by rw [← hx, AOut.force_eq]) hf hs hp h

/-- In a region whose order is not drawn nobody asks for the trace. -/
theorem ARun.valT {K : AState → Prop} {pre : Prop} {v : AV} {u : List (Nat × Option Obj)} {n : List Nat} (hw : wantB ops o s = some true) (hx : (aop eq2 tab o s.ev s.obj).force = .val pre v u n) (hf : n.all (freshB s) = true) (hs : s.app o.dst v u = s1) (hp : pre)
    (h : ARun P eq2 tab ops (i + 1) l s1 (fun _ s' => K s')) : ARun P eq2 tab ops i (o :: l) s (fun _ s' => K s') :=
  .val (K := fun _ s' => K s') hw (by rw [← hx, AOut.force_eq]) hf hs hp h

theorem Fin.mk' {ts : List Tmp} {r r' : AV} (h : closeV s.obj 5 (resAV ts s) = r') (hr : r' = r) (hc : closeP s.obj 5 (resAV ts s)) : Fin ts r s := ⟨h.trans hr, hc⟩

end
end Go.Proofs.Ytefbgdnobnemkaa.AM

namespace Go.Proofs.Ytefbgdnobnemkaa.AM
open Go Go.RowKit

theorem okTr_intro {ops : Array Oper} {s : AState} {tr : List (Nat × Foot)} (h : okTr ops s tr = true) : okTr ops s tr = true := h

def resOne (tab : Tab) (s : AState) : ResultVar → Option AV
  | .tmp t => some (s.tmps.getD t .junk)
  | .cell a t => match tab t, s.tmps.getD a .junk with
    | some ti, .ptr d off => match s.obj d with
      | some o => match o.c with
        | .agg cs => match ti.isAgg with
          | true => match Nat.ble (off + ti.size) cs.length with
            | true => some (.agg ((AV.agg cs).sub off ti.size))
            | false => none
          | false => match Nat.blt off cs.length with
            | true => some ((AV.agg cs).get off)
            | false => none
        | _ => none
      | none => none
    | _, _ => none

def resAll (tab : Tab) (s : AState) : List ResultVar → Option (List AV)
  | [] => some []
  | r :: rs => match resOne tab s r, resAll tab s rs with
    | some x, some xs => some (x :: xs)
    | _, _ => none

def resC (tab : Tab) (s : AState) : List ResultVar → Option AV
  | [r] => resOne tab s r
  | rs => (resAll tab s rs).map .tup

/-- What reads as the one reads as the other. -/
structure AVle (x y : AV) : Prop where
  run : ∀ ρ A w v, R ρ A w v x → R ρ A w v y

theorem AVle.refl (x : AV) : AVle x x := ⟨fun _ _ _ _ h => h⟩

/-- A function's end: the result, closed, is this. -/
structure FinC (tab : Tab) (rs : List ResultVar) (r : AV) (s : AState) : Prop where
  run : ∃ x y, resC tab s rs = some x ∧ closeV s.obj 5 x = y ∧ closeP s.obj 5 x ∧ AVle y r

def finC (tab : Tab) (rs : List ResultVar) (r : AV) : Exit → AState → Prop
  | .normal, s => FinC tab rs r s
  | .ret, s => FinC tab rs r s
  | _, _ => False

theorem FinC.mk' {tab : Tab} {rs : List ResultVar} {r r' x : AV} {s : AState} (hx : resC tab s rs = some x) (h : closeV s.obj 5 x = r') (hc : closeP s.obj 5 x) (hr : r' = r) : FinC tab rs r s := ⟨x, r', hx, h, hc, hr ▸ AVle.refl r'⟩

def rvRun (tmps : Array Value) : ResultVar → Sem Value
  | .tmp t => pure (tmps.getD t undef)
  | .cell a t => do loadVar t (← asAddr (tmps.getD a undef))

theorem results_eq (fn : Func) (tmps : Array Value) : results fn tmps = (do
  let vs ← fn.results.mapM (rvRun tmps)
  pure (if h : vs.size = 1 then vs[0] else .tuple vs)) := by
  unfold results
  congr 1

section
variable {P : Program} {tab : Tab} {w0 : World} {A0 A : Nat → Prop} {ρ : Rho} {s : AState} {a : Act} {w : World}

theorem resOne_R (hT : TabOk P tab) (h : St w0 A0 A ρ s a w) {r : ResultVar} {x : AV} (hx : resOne tab s r = some x) : ∃ v, (rvRun a.tmps r).run P w = .ok v w ∧ R ρ A w v x := by
  cases r with
  | tmp t =>
    simp only [resOne, Option.some.injEq] at hx
    subst hx
    exact ⟨_, by simp [rvRun], h.tmps t⟩
  | cell t ty =>
    simp only [resOne] at hx
    split at hx
    · rename_i ti d off h1 hm
      split at hx
      · rename_i ob hob
        split at hx
        · rename_i cs hcs
          obtain ⟨b, ob', cs', hob', hcs', hro, hok⟩ := h.box (d := d) (by simp [isBox, hob, hcs])
          rw [hob] at hob'; cases hob'
          have r1 := R.ptr_inv (hm ▸ h.tmps t : R ρ A w (a.tmps.getD t undef) _) hro
          have hc : ∀ i y, (AV.agg cs).cell? i = some y → ∃ v, w.cell? ⟨b, i, none⟩ = some v ∧ v.oneCell' = true ∧ R ρ A w v y := fun i y hy => by
            rw [← hcs] at hy
            exact (hok.2.2.2.2.2 i y hy).2
          have hg := run_isAgg' (hT ty ti h1) w
          have hs := run_sizeOf' (hT ty ti h1) w
          have hrun : ∀ {v : Value}, (loadVar ty ⟨b, off, none⟩).run P w = .ok v w → (rvRun a.tmps (.cell t ty)).run P w = .ok v w := fun hl => by
            have : (asAddr (a.tmps.getD t undef)).run P w = .ok ⟨b, off, none⟩ w := by rw [r1]; simp [asAddr]
            simp only [rvRun, Sem.run_bind, this, Result.andThen_ok]
            exact hl
          split at hx
          · rename_i hag
            rw [hag] at hg
            split at hx
            · rename_i hle
              cases hx
              have hle' := Nat.le_of_ble_eq_true hle
              have hcell : ∀ j, j < ti.size → ∃ v, w.cell? ⟨b, off + j, none⟩ = some v ∧ v.oneCell' = true ∧ R ρ A w v ((AV.agg cs).get (off + j)) := fun j hj => hc _ _ (AV.cell?_get (by simp only [AV.ncells]; omega))
              have hl : (loadCells ⟨b, off, none⟩ ti.size).run P w = .ok ((List.range ti.size).map fun j => (w.cell? ⟨b, off + j, none⟩).getD undef).toArray w := by
                refine run_loadCells w _ ti.size _ fun j hj => ?_
                obtain ⟨v, hv, _⟩ := hcell j hj
                rw [Addr.add_lit, hv]; rfl
              refine ⟨.agg ((List.range ti.size).map fun j => (w.cell? ⟨b, off + j, none⟩).getD undef).toArray, hrun ?_, .agg _ _ (by simp [AV.sub]) (fun i y hy => ?_) (fun i hi => ?_)⟩
              · simp [loadVar, hg, hs, hl]
              · simp only [AV.sub, List.getElem?_map, Option.map_eq_some_iff] at hy
                obtain ⟨j, hj, rfl⟩ := hy
                have hi := (List.getElem?_eq_some_iff.1 hj).1
                simp at hi
                rw [List.getElem?_range hi] at hj; cases hj
                obtain ⟨v, hv, _, hR⟩ := hcell i hi
                simpa [Array.getD_eq_getD_getElem?, List.getElem?_range hi, hi, hv] using hR
              · simp [AV.sub] at hi
                obtain ⟨v, hv, h1, _⟩ := hcell i hi
                simpa [Array.getD_eq_getD_getElem?, List.getElem?_range hi, hi, hv] using h1
            · cases hx
          · rename_i hag
            rw [hag] at hg
            split at hx
            · rename_i hlt
              cases hx
              have hlt' := Nat.le_of_ble_eq_true hlt
              obtain ⟨v, hv2, _, hR⟩ := hc _ _ (AV.cell?_get (c := .agg cs) (i := off) (by simp only [AV.ncells]; omega))
              exact ⟨v, hrun (by simp [loadVar, hg, hv2]), hR⟩
            · cases hx
        · cases hx
      · cases hx
    · cases hx

theorem resC_R (hT : TabOk P tab) (h : St w0 A0 A ρ s a w) {fn : Func} {rs : List ResultVar} (hrs : fn.results = rs.toArray) (hl : rs.length ≤ 4) {x : AV} (hx : resC tab s rs = some x) :
    ∃ v, (results fn a.tmps).run P w = .ok v w ∧ R ρ A w v x := by
  have two : ∀ {l : List ResultVar} {xs : List AV}, resAll tab s l = some xs → ∃ vs : List Value, vs.length = l.length ∧ xs.length = l.length ∧ (∀ (i : Nat) (r : ResultVar) (v : Value), l[i]? = some r → vs[i]? = some v → (rvRun a.tmps r).run P w = .ok v w) ∧ ∀ (i : Nat) (x : AV), xs[i]? = some x → ∃ v, vs[i]? = some v ∧ R ρ A w v x := by
    intro l
    induction l with
    | nil => intro xs hx; cases hx; exact ⟨[], rfl, rfl, by simp, by simp⟩
    | cons r l ih =>
      intro xs hx
      simp only [resAll] at hx
      split at hx
      · rename_i y ys h1 h2
        cases hx
        obtain ⟨v, hv, hR⟩ := resOne_R hT h h1
        obtain ⟨vs, i1, i2, i3, i4⟩ := ih h2
        refine ⟨v :: vs, by simp [i1], by simp [i2], fun i r' v' hr hv' => ?_, fun i x' hx' => ?_⟩
        · cases i with
          | zero => simp at hr hv'; subst hr; subst hv'; exact hv
          | succ i => exact i3 i r' v' (by simpa using hr) (by simpa using hv')
        · cases i with
          | zero => simp at hx'; subst hx'; exact ⟨v, by simp, hR⟩
          | succ i => simpa using i4 i x' (by simpa using hx')
      · cases hx
  have tup : ∀ {l : List ResultVar} {xs : List AV} {vs : List Value}, vs.length = l.length → xs.length = l.length → (∀ (i : Nat) (x : AV), xs[i]? = some x → ∃ v, vs[i]? = some v ∧ R ρ A w v x) → R ρ A w (.tuple vs.toArray) (.tup xs) := by
    intro l xs vs h1 h2 h3
    refine .tup _ _ (by simp [h1, h2]) fun i x hx => ?_
    obtain ⟨v, hv, hR⟩ := h3 i x hx
    have : vs.toArray.getD i undef = v := by simp [hv]
    rw [this]; exact hR
  rw [results_eq]
  match rs, hl with
  | [r], _ =>
    obtain ⟨v, hv, hR⟩ := resOne_R hT h hx
    exact ⟨v, by simp [hrs, hv], hR⟩
  | [], _ =>
    simp only [resC, resAll, Option.map_some, Option.some.injEq] at hx
    subst hx
    exact ⟨.tuple #[], by simp [hrs], .tup _ _ rfl (by simp)⟩
  | [r1, r2], _ =>
    simp only [resC, Option.map_eq_some_iff] at hx
    obtain ⟨xs, hxs, rfl⟩ := hx
    obtain ⟨vs, h1, h2, h3, h4⟩ := two hxs
    match vs, h1, h3, h4 with
    | [v1, v2], h1, h3, h4 => exact ⟨.tuple #[v1, v2], by simp [hrs, h3 0 r1 v1 rfl rfl, h3 1 r2 v2 rfl rfl], tup (l := [r1, r2]) h1 h2 h4⟩
  | [r1, r2, r3], _ =>
    simp only [resC, Option.map_eq_some_iff] at hx
    obtain ⟨xs, hxs, rfl⟩ := hx
    obtain ⟨vs, h1, h2, h3, h4⟩ := two hxs
    match vs, h1, h3, h4 with
    | [v1, v2, v3], h1, h3, h4 => exact ⟨.tuple #[v1, v2, v3], by simp [hrs, h3 0 r1 v1 rfl rfl, h3 1 r2 v2 rfl rfl, h3 2 r3 v3 rfl rfl], tup (l := [r1, r2, r3]) h1 h2 h4⟩
  | [r1, r2, r3, r4], _ =>
    simp only [resC, Option.map_eq_some_iff] at hx
    obtain ⟨xs, hxs, rfl⟩ := hx
    obtain ⟨vs, h1, h2, h3, h4⟩ := two hxs
    match vs, h1, h3, h4 with
    | [v1, v2, v3, v4], h1, h3, h4 => exact ⟨.tuple #[v1, v2, v3, v4], by simp [hrs, h3 0 r1 v1 rfl rfl, h3 1 r2 v2 rfl rfl, h3 2 r3 v3 rfl rfl, h3 3 r4 v4 rfl rfl], tup (l := [r1, r2, r3, r4]) h1 h2 h4⟩

/-- A function's law out of its body's. -/
theorem Pure.ofC (hT : TabOk P tab) {f : FuncId} {fn : Func} {c : Code} {args : List AV} {r : AV} (hf : P.funcs[f]? = some fn) (hb : fn.body = some c) (hg : (fn.name == "runtime.NumGoroutine") = false) (rs : List ResultVar)
    (hrs : fn.results = rs.toArray) (hl : rs.length ≤ 4) (hr : r.ments = []) (h : Holds P c (begin fn.ntmps args) (finC tab rs r)) : Pure P f args r := by
  refine ⟨hr, ⟨fn, hf, hg, by rw [hb]; rfl⟩, fun A w vs hA hvl hv => calls_of_wp hf hb (Go.wp_mono (h.run w A _ w ⟨A, noRho, St.begin hA hvl hv⟩) fun e a w' hq => ?_)⟩
  obtain ⟨s', hq, A1, ρ, hs⟩ := hq
  have key : FinC tab rs r s' → a.defers = [] ∧ ∃ v, (results fn a.tmps).run P w' = .ok v w' ∧ ∃ v', Ending.returned v = .returned v' ∧ R noRho (fun b => A b ∨ (w.heap.size ≤ b ∧ b < w'.heap.size)) w' v' r ∧ Below w.heap.size w w' := fun hfin => by
    obtain ⟨x, y, hx, hclose, hneed, hle'⟩ := hfin.run
    obtain ⟨v, hv, hvR⟩ := resC_R hT hs hrs hl hx
    refine ⟨hs.defers, v, hv, v, rfl, ?_, hs.below⟩
    have hle : ∀ b, A1 b → (A b ∨ (w.heap.size ≤ b ∧ b < w'.heap.size)) := fun b hb => by
      rcases hs.orig b hb with h1 | h1
      · exact .inl h1
      · exact .inr ⟨h1, hs.bound b hb⟩
    have := close_R hs (A' := fun b => A b ∨ (w.heap.size ≤ b ∧ b < w'.heap.size)) hle 5 (hvR.mono hle (fun _ _ => rfl) (fun _ _ => rfl)) hneed (fun d _ o b hsome hro hbo => by
      have h1 := hs.objs d
      cases hob : s'.obj d with
      | none => rw [hob] at hsome; cases hsome
      | some ob =>
        rw [hob] at h1
        obtain ⟨o', ho', hok⟩ := h1
        rw [hro] at ho'; cases ho'
        refine .inr ⟨?_, hs.rbound d o b hro hbo⟩
        cases o with
        | box b' => cases hbo; exact hok.2.1
        | fix b' n cap => cases hbo; exact hok.2.2.2.1
        | row u n =>
          obtain ⟨_, ⟨vs, h1, _⟩, _⟩ := hok
          rcases h1.2 with ⟨rfl, _⟩ | ⟨g, cap, cur, rfl, h2, _⟩
          · cases hbo
          · cases hbo; exact h2)
    rw [hclose] at this
    exact (hle'.run _ _ _ _ this).mono (fun _ h => h) (fun _ _ => rfl) (fun d hd => by rw [hr] at hd; cases hd)
  cases e with
  | normal => exact key hq
  | ret => exact key hq
  | exit id => exact hq.elim
  | goto l => exact hq.elim
  | panic c => exact hq.elim
  | outgrown => exact hq.elim

end
end Go.Proofs.Ytefbgdnobnemkaa.AM

namespace Go.Proofs.Ytefbgdnobnemkaa.AM
open Go Go.RowKit

theorem AVle.rfl' {x y : AV} (h : x = y) : AVle x y := h ▸ AVle.refl x
theorem AVle.junk (x : AV) : AVle x .junk := ⟨fun _ _ _ v _ => .junk v⟩
theorem AVle.nilS : AVle .nilsl (.slS []) := ⟨fun _ _ _ v h => by rw [h.nilsl_inv]; exact .row0 _ rfl⟩
theorem AVle.nilB : AVle .nilsl (.slB []) := ⟨fun _ _ _ v h => by rw [h.nilsl_inv]; exact .row0 _ rfl⟩
theorem AVle.nilG {sz : Nat} (h : 0 < sz) : AVle .nilsl (.slG sz []) := ⟨fun _ _ _ v hv => by rw [hv.nilsl_inv]; exact .row0 _ (by simp [AV.rowlen, h])⟩

inductive AVles : List AV → List AV → Prop
  | nil : AVles [] []
  | cons {x y : AV} {xs ys : List AV} (h : AVle x y) (t : AVles xs ys) : AVles (x :: xs) (y :: ys)

theorem AVles.length {xs ys : List AV} (h : AVles xs ys) : xs.length = ys.length := by
  induction h with
  | nil => rfl
  | cons _ _ ih => simp [ih]

theorem AVles.get {xs ys : List AV} (h : AVles xs ys) : ∀ i, AVle (xs.getD i .junk) (ys.getD i .junk) := by
  induction h with
  | nil => exact fun i => .refl _
  | cons h _ ih =>
    intro i
    cases i with
    | zero => exact h
    | succ i => simpa using ih i

theorem AVles.some {xs ys : List AV} (h : AVles xs ys) : ∀ {i : Nat} {y : AV}, ys[i]? = some y → ∃ x, xs[i]? = some x ∧ AVle x y := by
  induction h with
  | nil => intro i y h; simp at h
  | cons h _ ih =>
    intro i y hy
    cases i with
    | zero => simp at hy; subst hy; exact ⟨_, by simp, h⟩
    | succ i => simpa using ih (by simpa using hy)

theorem AVle.agg {xs ys : List AV} (h : AVles xs ys) : AVle (.agg xs) (.agg ys) := ⟨fun ρ A w v hv => by
  obtain ⟨cs, rfl, hl, h1, h2⟩ := hv.agg_inv
  refine .agg cs ys (by rw [hl, h.length]) (fun i y hy => ?_) (fun i hi => h2 i (by rw [h.length]; exact hi))
  obtain ⟨x, hx, hle⟩ := h.some hy
  exact hle.run _ _ _ _ (h1 i x hx)⟩

theorem AVle.tup {xs ys : List AV} (h : AVles xs ys) : AVle (.tup xs) (.tup ys) := ⟨fun ρ A w v hv => by
  obtain ⟨cs, rfl, hl, h1⟩ := hv.tup_inv
  refine .tup cs ys (by rw [hl, h.length]) (fun i y hy => ?_)
  obtain ⟨x, hx, hle⟩ := h.some hy
  exact hle.run _ _ _ _ (h1 i x hx)⟩

inductive Oles : List (Option Obj) → List (Option Obj) → Prop
  | nil : Oles [] []
  | same {x : Option Obj} {xs ys : List (Option Obj)} (t : Oles xs ys) : Oles (x :: xs) (x :: ys)
  | gone {x : Option Obj} {xs ys : List (Option Obj)} (t : Oles xs ys) : Oles (x :: xs) (none :: ys)

theorem Oles.eq {x y : Option Obj} {xs ys : List (Option Obj)} (h : x = y) (t : Oles xs ys) : Oles (x :: xs) (y :: ys) := h ▸ .same t

theorem Oles.get {xs ys : List (Option Obj)} (h : Oles xs ys) : ∀ (i : Nat), ys.getD i none = none ∨ ys.getD i none = xs.getD i none := by
  induction h with
  | nil => exact fun i => .inl rfl
  | same _ ih =>
    intro i
    cases i with
    | zero => exact .inr rfl
    | succ i => simpa using ih i
  | gone _ ih =>
    intro i
    cases i with
    | zero => exact .inl rfl
    | succ i => simpa using ih i

theorem Weak.of {ts ts' : List AV} {os os' : List (Option Obj)} (ht : AVles ts ts') (ho : Oles os os') : Weak ⟨ts, os⟩ ⟨ts', os'⟩ := ⟨fun w0 A0 a w hs => by
  obtain ⟨A, ρ, hs⟩ := hs
  refine ⟨A, ρ, ⟨hs.defers, by rw [hs.len]; exact ht.length, fun i => (ht.get i).run _ _ _ _ (hs.tmps i), hs.below, hs.bound, hs.orig, hs.keep, hs.rbound, hs.inj, fun d => ?_⟩⟩
  have h1 := hs.objs d
  have : (AState.mk ts' os').obj d = none ∨ (AState.mk ts' os').obj d = (AState.mk ts os).obj d := ho.get d
  rcases this with h2 | h2
  · rw [h2]; trivial
  · rw [h2]; exact h1⟩

theorem Weak.trans {s s' s'' : AState} (h : Weak s s') (h' : Weak s' s'') : Weak s s'' := ⟨fun w0 A0 a w hs => h'.run w0 A0 a w (h.run w0 A0 a w hs)⟩

/-- A row that is nothing yet is a row of the call, d its name. -/
theorem Weak.canon {s s' : AState} (t d : Nat) (e : TypeId) (c : AV) (hc : c.rowlen = some 0) (hcm : ∀ i x, c.cell? i = some x → False) (hn : s.tmps.getD t .junk = .nilsl) (hf : freshB s d = true)
    (hs' : (s.upd d (some ⟨true, true, c, e⟩)).put (some t) (.own d 0) = s') : Weak s s' := ⟨fun w0 A0 a w hs => by
  subst hs'
  obtain ⟨A, ρ, hs⟩ := hs
  have h1 := hs.newobj (d := d) (w' := w) (ro := .row (.slice none 0 0) 0) (ob := ⟨true, true, c, e⟩) (fresh_of hf) (.refl _ _) (fun b hb => by cases hb) ⟨hc, ⟨[], ⟨by simp, .inl ⟨rfl, rfl⟩⟩, fun i x hx => (hcm i x hx).elim⟩, fun b hb => by cases hb⟩
  have h2 := h1.put (some t) (v := .slice none 0 0) (x := .own d 0) (.own d 0 _ rfl fun o u len ho hv => by
    rw [Rho.set_same] at ho; cases ho
    cases hv
    exact ⟨Nat.le_refl _, fun _ => rfl⟩)
  have h3 : a.put (some t) (.slice none 0 0) = a := by
    have := (hn ▸ hs.tmps t : R ρ A w (a.tmps.getD t undef) .nilsl).nilsl_inv
    simp only [Act.put]
    congr 1
    apply Array.ext
    · simp
    · intro i h1 h2
      rw [Array.getElem_setIfInBounds]
      split
      · rename_i e
        subst e
        have h2' : t < a.tmps.size := by simpa using h2
        simp only [Array.getD_eq_getD_getElem?, Array.getElem?_eq_getElem h2', Option.getD_some] at this
        exact this.symm
      · rfl
  rw [h3] at h2
  exact ⟨A, _, h2⟩⟩

/-- A loop whose states are told by a family. -/
theorem Holds.loopF {P : Program} {c : Code} {s : AState} {Q : Exit → AState → Prop} {α : Type} (shape : α → AState) (m : α → Nat) (ok : α → Prop) (x0 : α) (h0 : Weak s (shape x0)) (hok : ok x0)
    (h : ∀ x, ok x → Holds P c (shape x) (thenQ (fun s' => ∃ y, (m y < m x ∧ ok y) ∧ Weak s' (shape y)) Q)) : Holds P (.loop c) s Q :=
  .weak h0 (.loop (fun n s => ∃ x, n = m x ∧ ok x ∧ s = shape x) (fun n s ⟨x, hn, hx, hs⟩ => by
    subst hn hs
    refine ⟨fun w0 A0 a w hsim => Go.wp_mono ((h x hx).run w0 A0 a w hsim) fun e a' w' hq => ?_⟩
    obtain ⟨s', hq, hs'⟩ := hq
    refine ⟨s', ?_, hs'⟩
    cases e with
    | normal =>
      obtain ⟨y, ⟨h1, h2⟩, h3⟩ := hq
      exact ⟨m y, shape y, h1, h3, y, rfl, h2, rfl⟩
    | _ => exact hq) ⟨x0, rfl, hok, rfl⟩)

theorem FinC.le {tab : Tab} {rs : List ResultVar} {r r' x : AV} {s : AState} (hx : resC tab s rs = some x) (h : closeV s.obj 5 x = r') (hc : closeP s.obj 5 x) (hr : AVle r' r) : FinC tab rs r s := ⟨x, r', hx, h, hc, hr⟩

end Go.Proofs.Ytefbgdnobnemkaa.AM

namespace Go.Proofs.Ytefbgdnobnemkaa.AM
open Go Go.RowKit

theorem rowlen_intro {c : AV} {n : Nat} (h : c.rowlen = some n) : c.rowlen = some n := h

def forceOL {α : Type} : List (Option Obj) → (List (Option Obj) → α) → α
  | [], k => k []
  | none :: l, k => forceOL l fun l => k (none :: l)
  | some o :: l, k => forceO o fun o => forceOL l fun l => k (some o :: l)

theorem forceOL_eq {α : Type} : ∀ (l : List (Option Obj)) (k : List (Option Obj) → α), forceOL l k = k l
  | [], _ => rfl
  | none :: l, k => by simp only [forceOL, forceOL_eq l]
  | some o :: l, k => by simp only [forceOL, forceO_eq, forceOL_eq l]

section
variable {P : Program} {eq2 : TypeId → Bool} {tab : Tab} {s s1 s2 : AState} {ops : Array Oper} {i : Nat} {l : List Oper} {K : List (Nat × Foot) → AState → Prop} {o : Oper}

theorem ARun.testT {φ : Prop} {d : Decidable φ} (hw : wantB ops o s = some true) (hx : aop eq2 tab o s.ev s.obj = .test φ d) (hφ : φ) (hs : s.app o.dst (.bool true) [] = s1)
    (h : ARun P eq2 tab ops (i + 1) l s1 (fun tr s' => K ((i, ⟨opMents o s.ev, [], []⟩) :: tr) s')) : ARun P eq2 tab ops i (o :: l) s K :=
  .test hw hx (by rw [decide_eq_true hφ]; exact hs) h

theorem ARun.testE {α : Type} {x : α} {d : Decidable (x = x)} (hw : wantB ops o s = some true) (hx : aop eq2 tab o s.ev s.obj = .test (x = x) d) (hs : s.app o.dst (.bool true) [] = s1)
    (h : ARun P eq2 tab ops (i + 1) l s1 (fun tr s' => K ((i, ⟨opMents o s.ev, [], []⟩) :: tr) s')) : ARun P eq2 tab ops i (o :: l) s K :=
  .testT hw hx rfl hs h

theorem ARun.testEE {x y : Int} {d : Decidable (x = x ∧ y = y)} (hw : wantB ops o s = some true) (hx : aop eq2 tab o s.ev s.obj = .test (x = x ∧ y = y) d) (hs : s.app o.dst (.bool true) [] = s1)
    (h : ARun P eq2 tab ops (i + 1) l s1 (fun tr s' => K ((i, ⟨opMents o s.ev, [], []⟩) :: tr) s')) : ARun P eq2 tab ops i (o :: l) s K :=
  .testT hw hx ⟨rfl, rfl⟩ hs h

theorem ARun.callB {c : Call} {fop : Operand} {g : FuncId} {caps : List AV} {b : Bool} {args : List AV} (hw : wantB ops o s = some true) (ho : o.op = .call c) (hc : c.callee = .value fop) (hg : s.ev fop = .fn g caps)
    (ha : (callArgs c caps s.ev).map (closeV s.obj 5) = args) (hm : mentsL args = []) (hr : Pure P g args (.bool b)) (hcl : allP (closeP s.obj 5) (callArgs c caps s.ev))
    (hs : s.app o.dst (.bool true) [] = s1) (hs2 : s.app o.dst (.bool false) [] = s2)
    (h : b = true → ARun P eq2 tab ops (i + 1) l s1 (fun tr s' => K ((i, ⟨opMents o s.ev ++ (callArgs c caps s.ev).flatMap (visits s.obj 5), [], []⟩) :: tr) s'))
    (h2 : b = false → ARun P eq2 tab ops (i + 1) l s2 (fun tr s' => K ((i, ⟨opMents o s.ev ++ (callArgs c caps s.ev).flatMap (visits s.obj 5), [], []⟩) :: tr) s')) : ARun P eq2 tab ops i (o :: l) s K := by
  cases b with
  | true => exact .call hw ho hc hg ha hm hr hcl hs (h rfl)
  | false => exact .call hw ho hc hg ha hm hr hcl hs2 (h2 rfl)

theorem ARun.callF {c : Call} {fop : Operand} {g : FuncId} {caps : List AV} {r : AV} {args : List AV} (hw : wantB ops o s = some true) (ho : o.op = .call c) (hc : c.callee = .value fop) (hg : s.ev fop = .fn g caps)
    (ha : (callArgs c caps s.ev).map (closeV s.obj 5) = args) (hm : mentsL args = []) (hr : Pure P g args r) (hcl : allP (closeP s.obj 5) (callArgs c caps s.ev))
    (hs : forceOL (s.app o.dst r (match r.flat with | true => [] | false => frz s ((callArgs c caps s.ev).flatMap (visits s.obj 5)))).objs (fun os => some (AState.mk (s.app o.dst r []).tmps os)) = some s1)
    (h : ARun P eq2 tab ops (i + 1) l s1 (fun tr s' => K ((i, ⟨opMents o s.ev ++ (callArgs c caps s.ev).flatMap (visits s.obj 5), match r.flat with | true => [] | false => (callArgs c caps s.ev).flatMap (visits s.obj 5), []⟩) :: tr) s')) : ARun P eq2 tab ops i (o :: l) s K := by
  refine .call hw ho hc hg ha hm hr hcl ?_ h
  rw [forceOL_eq] at hs
  cases hs
  refine AState.ext ?_ rfl
  rw [app_tmps, app_tmps]

end
end Go.Proofs.Ytefbgdnobnemkaa.AM

namespace Go.Proofs.Ytefbgdnobnemkaa.AM
open Go Go.RowKit

inductive TT (α : Type) where
  | leaf (x : α)
  | node (l r : TT α)

namespace TT
variable {α β : Type}

def get : TT α → Nat → α
  | .leaf x, _ => x
  | .node l r, d => match Nat.beq (d % 2) 0 with
    | true => l.get (d / 2)
    | false => r.get (d / 2)

def set : TT α → Nat → α → TT α
  | .leaf _, _, x => .leaf x
  | .node l r, d, x => match Nat.beq (d % 2) 0 with
    | true => .node (l.set (d / 2) x) r
    | false => .node l (r.set (d / 2) x)

def setF : TT α → Nat → α → (TT α → β) → β
  | .leaf _, _, x, k => k (.leaf x)
  | .node l r, d, x, k => match Nat.beq (d % 2) 0 with
    | true => l.setF (d / 2) x fun l => k (.node l r)
    | false => r.setF (d / 2) x fun r => k (.node l r)

theorem setF_eq : ∀ (t : TT α) (d : Nat) (x : α) (k : TT α → β), t.setF d x k = k (t.set d x)
  | .leaf _, _, _, _ => rfl
  | .node l r, d, x, k => by
    simp only [setF, set]
    cases Nat.beq (d % 2) 0 <;> simp only [setF_eq]

def perf : TT α → Nat → Bool
  | .leaf _, 0 => true
  | .node l r, k + 1 => l.perf k && r.perf k
  | _, _ => false

theorem perf_set : ∀ (t : TT α) (d : Nat) (x : α) (k : Nat), (t.set d x).perf k = t.perf k
  | .leaf _, _, _, 0 => rfl
  | .leaf _, _, _, _ + 1 => rfl
  | .node l r, d, x, 0 => by
    simp only [set]
    cases Nat.beq (d % 2) 0 <;> rfl
  | .node l r, d, x, k + 1 => by
    simp only [set]
    cases Nat.beq (d % 2) 0 <;> simp only [perf, perf_set]

theorem get_set : ∀ (t : TT α) (k : Nat) (_ : t.perf k = true) (d d' : Nat) (x : α), d < 2 ^ k → d' < 2 ^ k → (t.set d x).get d' = if d = d' then x else t.get d'
  | .leaf _, 0, _, d, d', x, h1, h2 => by
    have : d = d' := by omega
    simp [set, get, this]
  | .leaf _, k + 1, h, _, _, _, _, _ => by cases h
  | .node l r, 0, h, _, _, _, _, _ => by cases h
  | .node l r, k + 1, h, d, d', x, h1, h2 => by
    simp only [perf, Bool.and_eq_true] at h
    have e1 : d / 2 < 2 ^ k := by omega
    have e2 : d' / 2 < 2 ^ k := by omega
    have b : ∀ n : Nat, (Nat.beq (n % 2) 0 = true ∧ n % 2 = 0) ∨ (Nat.beq (n % 2) 0 = false ∧ n % 2 = 1) := fun n => by
      rcases Nat.mod_two_eq_zero_or_one n with e | e <;> rw [e]
      · exact .inl ⟨rfl, rfl⟩
      · exact .inr ⟨rfl, rfl⟩
    rcases b d with ⟨b1, b2⟩ | ⟨b1, b2⟩ <;> rcases b d' with ⟨c1, c2⟩ | ⟨c1, c2⟩
    · simp only [set, get, b1, c1, get_set l k h.1 _ _ x e1 e2]
      by_cases e : d = d'
      · subst e; simp
      · rw [if_neg e, if_neg (by omega)]
    · simp only [set, get, b1, c1]
      rw [if_neg (by omega)]
    · simp only [set, get, b1, c1]
      rw [if_neg (by omega)]
    · simp only [set, get, b1, c1, get_set r k h.2 _ _ x e1 e2]
      by_cases e : d = d'
      · subst e; simp
      · rw [if_neg e, if_neg (by omega)]
end TT

/-- Nothing told; no object. -/
def J : Nat → TT AV
  | 0 => .leaf .junk
  | k + 1 => .node (J k) (J k)
def OO : Nat → TT (Option Obj)
  | 0 => .leaf none
  | k + 1 => .node (OO k) (OO k)

theorem J_get : ∀ k d, (J k).get d = .junk
  | 0, _ => rfl
  | k + 1, d => by
    simp only [J, TT.get, J_get k]
    cases Nat.beq (d % 2) 0 <;> rfl
theorem OO_get : ∀ k d, (OO k).get d = none
  | 0, _ => rfl
  | k + 1, d => by
    simp only [OO, TT.get, OO_get k]
    cases Nat.beq (d % 2) 0 <;> rfl

structure TS where
  n : Nat
  k : Nat
  t : TT AV
  o : TT (Option Obj)

namespace TS

def good (T : TS) : Bool := T.t.perf T.k && T.o.perf T.k && Nat.ble T.n (2 ^ T.k)

def st (T : TS) : AState := ⟨(List.range T.n).map T.t.get, (List.range T.n).map T.o.get⟩

def tmp (T : TS) (i : Nat) : AV := match Nat.blt i T.n with
  | true => T.t.get i
  | false => .junk
def obj (T : TS) (i : Nat) : Option Obj := match Nat.blt i T.n with
  | true => T.o.get i
  | false => none

def ev (T : TS) : Operand → AV
  | .tmp t => T.tmp t
  | .const v => absV v
  | .global _ => .junk
  | .func f => .fn f []

def put (T : TS) (d : Option Nat) (x : AV) : TS := match d with
  | some d => match Nat.blt d T.n with
    | true => { T with t := T.t.set d x }
    | false => T
  | none => T

def upd (T : TS) (d : Nat) (x : Option Obj) : TS := match Nat.blt d T.n with
  | true => { T with o := T.o.set d x }
  | false => T

theorem blt_iff {a b : Nat} : Nat.blt a b = true ↔ a < b := by
  unfold Nat.blt
  rw [Nat.ble_eq]
  exact Iff.rfl
theorem blt_not {a b : Nat} : Nat.blt a b = false ↔ ¬ a < b := by
  rw [← blt_iff]; cases Nat.blt a b <;> simp

theorem st_tmp (T : TS) (i : Nat) : T.st.tmps.getD i .junk = T.tmp i := by
  unfold st tmp
  rcases Nat.lt_or_ge i T.n with h | h
  · rw [blt_iff.2 h]
    simp [List.getD_eq_getElem?_getD, h]
  · rw [blt_not.2 (by omega)]
    simp [List.getD_eq_getElem?_getD, h]
theorem st_obj' (T : TS) (i : Nat) : T.st.obj i = T.obj i := by
  unfold st obj AState.obj
  rcases Nat.lt_or_ge i T.n with h | h
  · rw [blt_iff.2 h]
    simp [List.getD_eq_getElem?_getD, h]
  · rw [blt_not.2 (by omega)]
    simp [List.getD_eq_getElem?_getD, h]
theorem st_obj (T : TS) : T.st.obj = T.obj := funext T.st_obj'
theorem st_ev (T : TS) : T.st.ev = T.ev := by
  funext x
  cases x with
  | tmp t => exact T.st_tmp t
  | _ => rfl

theorem map_set {α : Type} {t : TT α} {k n d : Nat} (hp : t.perf k = true) (hn : n ≤ 2 ^ k) (hd : d < n) (x : α) : ((List.range n).map t.get).set d x = (List.range n).map (t.set d x).get := by
  apply List.ext_getElem?
  intro i
  rw [List.getElem?_set]
  rcases Nat.lt_or_ge i n with h | h
  · simp only [List.length_map, List.length_range, hd, if_true, List.getElem?_map, List.getElem?_range h, Option.map_some, TT.get_set t k hp d i x (by omega) (by omega)]
    split <;> rfl
  · rw [if_neg (by omega)]
    simp [h]

theorem put_st {T : TS} (hg : T.good = true) (d : Option Nat) (x : AV) : (T.put d x).st = T.st.put d x ∧ (T.put d x).good = true := by
  have hg' := hg
  unfold good at hg
  simp only [Bool.and_eq_true, Nat.ble_eq] at hg
  cases d with
  | none => exact ⟨rfl, hg'⟩
  | some d =>
    unfold put
    simp only
    cases hb : Nat.blt d T.n with
    | true =>
      refine ⟨?_, ?_⟩
      · simp only [st, AState.put]
        rw [map_set hg.1.1 hg.2 (blt_iff.1 hb)]
      · simp only [good, TT.perf_set, Bool.and_eq_true, Nat.ble_eq]; exact hg
    | false =>
      refine ⟨?_, hg'⟩
      simp only [st, AState.put]
      rw [List.set_eq_of_length_le]
      have := blt_not.1 hb
      simpa using this
theorem upd_st {T : TS} (hg : T.good = true) (d : Nat) (x : Option Obj) : (T.upd d x).st = T.st.upd d x ∧ (T.upd d x).good = true := by
  have hg' := hg
  unfold good at hg
  simp only [Bool.and_eq_true, Nat.ble_eq] at hg
  unfold upd
  cases hb : Nat.blt d T.n with
  | true =>
    refine ⟨?_, ?_⟩
    · simp only [st, AState.upd]
      rw [map_set hg.1.2 hg.2 (blt_iff.1 hb)]
    · simp only [good, TT.perf_set, Bool.and_eq_true, Nat.ble_eq]; exact hg
  | false =>
    refine ⟨?_, hg'⟩
    simp only [st, AState.upd]
    rw [List.set_eq_of_length_le]
    have := blt_not.1 hb
    simpa using this

def app (T : TS) (dst : Option Nat) (v : AV) (u : List (Nat × Option Obj)) : TS := (u.foldl (fun T p => T.upd p.1 p.2) T).put dst v

theorem app_st {T : TS} (hg : T.good = true) (dst : Option Nat) (v : AV) (u : List (Nat × Option Obj)) : (T.app dst v u).st = T.st.app dst v u ∧ (T.app dst v u).good = true := by
  unfold app AState.app
  induction u generalizing T with
  | nil => exact put_st hg dst v
  | cons p u ih =>
    have h1 := upd_st hg p.1 p.2
    have := ih h1.2
    simp only [List.foldl_cons]
    rw [← h1.1]
    exact this

/-- The same, each part told by a constructor. -/
def putF {β : Type} (T : TS) (d : Option Nat) (x : AV) (k : TS → β) : β := match d with
  | some d => match Nat.blt d T.n with
    | true => match T with | ⟨n, m, t, o⟩ => forceAV x fun x => t.setF d x fun t => k ⟨n, m, t, o⟩
    | false => k T
  | none => k T
theorem putF_eq {β : Type} (T : TS) (d : Option Nat) (x : AV) (k : TS → β) : T.putF d x k = k (T.put d x) := by
  unfold putF put
  cases d with
  | none => rfl
  | some d =>
    simp only
    cases Nat.blt d T.n with
    | true => simp only [forceAV_eq, TT.setF_eq]
    | false => rfl

def forceOO {β : Type} (o : Option Obj) (k : Option Obj → β) : β := match o with
  | none => k none
  | some o => forceO o fun o => k (some o)
theorem forceOO_eq {β : Type} (o : Option Obj) (k : Option Obj → β) : forceOO o k = k o := by cases o <;> simp only [forceOO, forceO_eq]

def updF {β : Type} (T : TS) (d : Nat) (x : Option Obj) (k : TS → β) : β := match Nat.blt d T.n with
  | true => match T with | ⟨n, m, t, o⟩ => forceOO x fun x => o.setF d x fun o => k ⟨n, m, t, o⟩
  | false => k T
theorem updF_eq {β : Type} (T : TS) (d : Nat) (x : Option Obj) (k : TS → β) : T.updF d x k = k (T.upd d x) := by
  unfold updF upd
  cases Nat.blt d T.n with
  | true => simp only [forceOO_eq, TT.setF_eq]
  | false => rfl

def updsF {β : Type} : List (Nat × Option Obj) → TS → (TS → β) → β
  | [], T, k => k T
  | (d, x) :: u, T, k => T.updF d x fun T => updsF u T k
theorem updsF_eq {β : Type} : ∀ (u : List (Nat × Option Obj)) (T : TS) (k : TS → β), updsF u T k = k (u.foldl (fun T p => T.upd p.1 p.2) T)
  | [], T, k => rfl
  | (d, x) :: u, T, k => by simp only [updsF, updF_eq, updsF_eq u, List.foldl_cons]

def appF {β : Type} (T : TS) (dst : Option Nat) (v : AV) (u : List (Nat × Option Obj)) (k : TS → β) : β := updsF u T fun T => T.putF dst v k
theorem appF_eq {β : Type} (T : TS) (dst : Option Nat) (v : AV) (u : List (Nat × Option Obj)) (k : TS → β) : T.appF dst v u k = k (T.app dst v u) := by
  unfold appF app
  rw [updsF_eq, putF_eq]

def want (ops : Array Oper) (o : Oper) (T : TS) : Option Bool :=
  match o.guard with
  | none => some true
  | some (j, want) => match (ops[j]?).bind (·.dst) with
    | some d => match T.tmp d with
      | .bool b => some (b == want)
      | .tup [] => some false
      | _ => none
    | none => some false

theorem want_st (ops : Array Oper) (o : Oper) (T : TS) : wantB ops o T.st = want ops o T := by
  unfold wantB want
  rcases o.guard with _ | ⟨j, w⟩
  · rfl
  · simp only
    rcases (ops[j]?).bind (·.dst) with _ | d
    · rfl
    · simp only [st_tmp]
      cases T.tmp d with
      | tup vs => cases vs <;> rfl
      | _ => rfl

def freshA (T : TS) (l : List Nat) : Bool := l.all (freshB T.st)

end TS

/-- What a run of operations comes to: what it asks, checks, its trace, the rest. -/
inductive MR where
  | mk (pre : List Prop) (chk : Bool) (tr : List (Nat × Foot)) (i : Nat) (l : List Oper) (T : TS)

def many (eq2 : TypeId → Bool) (tab : Tab) (ops : Array Oper) : List Oper → Nat → TS → List Prop → Bool → List (Nat × Foot) → MR
  | [], i, T, pre, chk, tr => .mk pre chk tr i [] T
  | o :: l, i, T, pre, chk, tr => match TS.want ops o T with
    | some true => match aop eq2 tab o T.ev T.obj with
      | .val p v u n => T.appF o.dst v u fun T' => match n with
        | [] => many eq2 tab ops l (i + 1) T' (p :: pre) chk ((i, ⟨opMents o T.ev, u.map (·.1), []⟩) :: tr)
        | d :: n => many eq2 tab ops l (i + 1) T' (p :: pre) (chk && T.freshA (d :: n)) ((i, ⟨opMents o T.ev, u.map (·.1), d :: n⟩) :: tr)
      | _ => .mk pre chk tr i (o :: l) T
    | some false => T.appF o.dst (.tup []) [] fun T' => many eq2 tab ops l (i + 1) T' pre chk ((i, ⟨[], [], []⟩) :: tr)
    | none => .mk pre chk tr i (o :: l) T

def allProp : List Prop → Prop
  | [] => True
  | p :: l => p ∧ allProp l

/-- The rest of a region's operations. -/
structure TRun (P : Program) (eq2 : TypeId → Bool) (tab : Tab) (ops : Array Oper) (i : Nat) (l : List Oper) (T : TS) (K : List (Nat × Foot) → TS → Prop) : Prop where
  run : T.good = true → ARun P eq2 tab ops i l T.st fun tr s => ∃ T', T'.good = true ∧ s = T'.st ∧ K tr T'

section
variable {P : Program} {eq2 : TypeId → Bool} {tab : Tab} {ops : Array Oper} {i : Nat} {l : List Oper} {T T1 T2 : TS} {K : List (Nat × Foot) → TS → Prop} {o : Oper}

theorem ARun.mono {s : AState} {K K' : List (Nat × Foot) → AState → Prop} (hk : ∀ tr s, K tr s → K' tr s) (h : ARun P eq2 tab ops i l s K) : ARun P eq2 tab ops i l s K' := ⟨fun hl => by
  obtain ⟨tr, s', h1, h2, h3⟩ := h.run hl
  exact ⟨tr, s', h1, h2, hk _ _ h3⟩⟩

theorem TRun.nil (h : K [] T) : TRun P eq2 tab ops i [] T K := ⟨fun hg => .nil ⟨T, hg, rfl, h⟩⟩

theorem TRun.skip (hw : TS.want ops o T = some false) (h : TRun P eq2 tab ops (i + 1) l (T.app o.dst (.tup []) []) fun tr T' => K ((i, ⟨[], [], []⟩) :: tr) T') : TRun P eq2 tab ops i (o :: l) T K := ⟨fun hg => by
  have h1 := TS.app_st hg o.dst (.tup []) []
  refine ARun.skip (by rw [TS.want_st]; exact hw) h1.1.symm ((h.run h1.2).mono fun tr s h => h)⟩

theorem TRun.val {pre : Prop} {v : AV} {u : List (Nat × Option Obj)} {n : List Nat} (hw : TS.want ops o T = some true) (hx : aop eq2 tab o T.ev T.obj = .val pre v u n) (hf : T.freshA n = true) (hp : pre)
    (h : TRun P eq2 tab ops (i + 1) l (T.app o.dst v u) fun tr T' => K ((i, ⟨opMents o T.ev, u.map (·.1), n⟩) :: tr) T') : TRun P eq2 tab ops i (o :: l) T K := ⟨fun hg => by
  have h1 := TS.app_st hg o.dst v u
  refine ARun.val (by rw [TS.want_st]; exact hw) (by rw [TS.st_ev, TS.st_obj]; exact hx) hf h1.1.symm hp ?_
  rw [TS.st_ev]
  exact (h.run h1.2).mono fun tr s h => h⟩

theorem MR.mk_inj {pre pre' : List Prop} {chk chk' : Bool} {tr tr' : List (Nat × Foot)} {i i' : Nat} {l l' : List Oper} {T T' : TS} (h : MR.mk pre chk tr i l T = .mk pre' chk' tr' i' l' T') : pre = pre' ∧ chk = chk' ∧ tr = tr' ∧ i = i' ∧ l = l' ∧ T = T' := by
  cases h; exact ⟨rfl, rfl, rfl, rfl, rfl, rfl⟩

theorem many_grows : ∀ {l : List Oper} {i : Nat} {T : TS} {pre pre' : List Prop} {chk chk' : Bool} {tr tr' : List (Nat × Foot)} {i' : Nat} {l' : List Oper} {T' : TS},
    many eq2 tab ops l i T pre chk tr = .mk pre' chk' tr' i' l' T' → (∃ ps, pre' = ps ++ pre) ∧ (chk' = true → chk = true) ∧ ∃ ts, tr' = ts ++ tr
  | [], i, T, pre, pre', chk, chk', tr, tr', i', l', T', h => by
    obtain ⟨rfl, rfl, rfl, _⟩ := MR.mk_inj h
    exact ⟨⟨[], rfl⟩, id, [], rfl⟩
  | o :: l, i, T, pre, pre', chk, chk', tr, tr', i', l', T', h => by
    have stop : MR.mk pre chk tr i (o :: l) T = .mk pre' chk' tr' i' l' T' → (∃ ps, pre' = ps ++ pre) ∧ (chk' = true → chk = true) ∧ ∃ ts, tr' = ts ++ tr := fun h => by
      obtain ⟨rfl, rfl, rfl, _⟩ := MR.mk_inj h
      exact ⟨⟨[], rfl⟩, id, [], rfl⟩
    simp only [many] at h
    split at h
    · split at h
      · rw [TS.appF_eq] at h
        split at h
        · obtain ⟨⟨ps, h1⟩, h2, ts, h3⟩ := many_grows h
          rw [List.append_cons] at h1 h3
          exact ⟨⟨_, h1⟩, h2, _, h3⟩
        · obtain ⟨⟨ps, h1⟩, h2, ts, h3⟩ := many_grows h
          rw [List.append_cons] at h1 h3
          exact ⟨⟨_, h1⟩, fun hc => (Bool.and_eq_true _ _ ▸ h2 hc).1, _, h3⟩
      · exact stop h
    · rw [TS.appF_eq] at h
      obtain ⟨h1, h2, ts, h3⟩ := many_grows h
      rw [List.append_cons] at h3
      exact ⟨h1, h2, _, h3⟩
    · exact stop h

theorem allProp_mem : ∀ {l : List Prop}, allProp l → ∀ p ∈ l, p
  | _ :: _, h, p, hp => by
    rcases List.mem_cons.1 hp with rfl | hp
    · exact h.1
    · exact allProp_mem h.2 p hp

theorem many_run : ∀ {l : List Oper} {i : Nat} {T : TS} {pre pre' : List Prop} {chk chk' : Bool} {tr tr' : List (Nat × Foot)} {i' : Nat} {l' : List Oper} {T' : TS} {K : List (Nat × Foot) → TS → Prop},
    many eq2 tab ops l i T pre chk tr = .mk pre' chk' tr' i' l' T' → chk' = true → allProp pre' → (∀ ts, tr' = ts ++ tr → TRun P eq2 tab ops i' l' T' fun t T' => K (ts.reverse ++ t) T') → TRun P eq2 tab ops i l T K
  | [], i, T, pre, pre', chk, chk', tr, tr', i', l', T', K, h, hc, hp, hr => by
    obtain ⟨rfl, rfl, rfl, rfl, rfl, rfl⟩ := MR.mk_inj h
    exact hr [] rfl
  | o :: l, i, T, pre, pre', chk, chk', tr, tr', i', l', T', K, h, hc, hp, hr => by
    have stop : MR.mk pre chk tr i (o :: l) T = .mk pre' chk' tr' i' l' T' → TRun P eq2 tab ops i (o :: l) T K := fun h => by
      obtain ⟨rfl, rfl, rfl, rfl, rfl, rfl⟩ := MR.mk_inj h
      exact hr [] rfl
    simp only [many] at h
    split at h
    · rename_i hw
      split at h
      · rename_i p v u n hx
        rw [TS.appF_eq] at h
        split at h
        · obtain ⟨⟨ps, h1⟩, _, _⟩ := many_grows h
          refine .val hw hx rfl (allProp_mem hp _ (by rw [h1]; simp)) (many_run h hc hp fun ts hts => ?_)
          rw [List.append_cons] at hts
          have := hr _ hts
          simpa using this
        · obtain ⟨⟨ps, h1⟩, h2, _⟩ := many_grows h
          refine .val hw hx (Bool.and_eq_true _ _ ▸ h2 hc).2 (allProp_mem hp _ (by rw [h1]; simp)) (many_run h hc hp fun ts hts => ?_)
          rw [List.append_cons] at hts
          have := hr _ hts
          simpa using this
      · exact stop h
    · rename_i hw
      rw [TS.appF_eq] at h
      refine .skip hw (many_run h hc hp fun ts hts => ?_)
      rw [List.append_cons] at hts
      have := hr _ hts
      simpa using this
    · exact stop h

theorem TRun.many {pre : List Prop} {chk : Bool} {tr : List (Nat × Foot)} {i' : Nat} {l' : List Oper} {T' : TS}
    (h : many eq2 tab ops l i T [] true [] = .mk pre chk tr i' l' T') (_ : Nat.blt i i' = true) (hc : chk = true) (hp : allProp pre) (hr : TRun P eq2 tab ops i' l' T' fun t T' => K (tr.reverse ++ t) T') : TRun P eq2 tab ops i l T K :=
  many_run h hc hp fun ts hts => by rw [List.append_nil] at hts; rw [← hts]; exact hr

theorem TRun.test {φ : Prop} {d : Decidable φ} {b : Bool} (hb : decide φ = b) (hw : TS.want ops o T = some true) (hx : aop eq2 tab o T.ev T.obj = .test φ d) (hs : T.appF o.dst (.bool b) [] some = some T1)
    (h : TRun P eq2 tab ops (i + 1) l T1 fun tr T' => K ((i, ⟨opMents o T.ev, [], []⟩) :: tr) T') : TRun P eq2 tab ops i (o :: l) T K := ⟨fun hg => by
  rw [TS.appF_eq] at hs
  cases hs
  have h1 := TS.app_st hg o.dst (.bool b) []
  refine ARun.test (by rw [TS.want_st]; exact hw) (by rw [TS.st_ev, TS.st_obj]; exact hx) (s1 := (T.app o.dst (.bool b) []).st) (by rw [hb]; exact h1.1.symm) ?_
  rw [TS.st_ev]
  exact (h.run h1.2).mono fun tr s h => h⟩

theorem TRun.yes {φ : Prop} {d : Decidable φ} (hw : TS.want ops o T = some true) (hx : aop eq2 tab o T.ev T.obj = .test φ d) (hφ : φ) (hs : T.appF o.dst (.bool true) [] some = some T1)
    (h : TRun P eq2 tab ops (i + 1) l T1 fun tr T' => K ((i, ⟨opMents o T.ev, [], []⟩) :: tr) T') : TRun P eq2 tab ops i (o :: l) T K :=
  .test (decide_eq_true hφ) hw hx hs h
theorem TRun.no {φ : Prop} {d : Decidable φ} (hw : TS.want ops o T = some true) (hx : aop eq2 tab o T.ev T.obj = .test φ d) (hφ : ¬ φ) (hs : T.appF o.dst (.bool false) [] some = some T1)
    (h : TRun P eq2 tab ops (i + 1) l T1 fun tr T' => K ((i, ⟨opMents o T.ev, [], []⟩) :: tr) T') : TRun P eq2 tab ops i (o :: l) T K :=
  .test (decide_eq_false hφ) hw hx hs h
theorem TRun.same {α : Type} {x : α} {d : Decidable (x = x)} (hw : TS.want ops o T = some true) (hx : aop eq2 tab o T.ev T.obj = .test (x = x) d) (hs : T.appF o.dst (.bool true) [] some = some T1)
    (h : TRun P eq2 tab ops (i + 1) l T1 fun tr T' => K ((i, ⟨opMents o T.ev, [], []⟩) :: tr) T') : TRun P eq2 tab ops i (o :: l) T K :=
  .yes hw hx rfl hs h
theorem TRun.same2 {x y : Int} {d : Decidable (x = x ∧ y = y)} (hw : TS.want ops o T = some true) (hx : aop eq2 tab o T.ev T.obj = .test (x = x ∧ y = y) d) (hs : T.appF o.dst (.bool true) [] some = some T1)
    (h : TRun P eq2 tab ops (i + 1) l T1 fun tr T' => K ((i, ⟨opMents o T.ev, [], []⟩) :: tr) T') : TRun P eq2 tab ops i (o :: l) T K :=
  .yes hw hx ⟨rfl, rfl⟩ hs h

theorem TRun.split {φ : Prop} {d : Decidable φ} (hw : TS.want ops o T = some true) (hx : aop eq2 tab o T.ev T.obj = .test φ d) (hs : T.appF o.dst (.bool true) [] some = some T1) (hs2 : T.appF o.dst (.bool false) [] some = some T2)
    (h : φ → TRun P eq2 tab ops (i + 1) l T1 fun tr T' => K ((i, ⟨opMents o T.ev, [], []⟩) :: tr) T') (h2 : ¬ φ → TRun P eq2 tab ops (i + 1) l T2 fun tr T' => K ((i, ⟨opMents o T.ev, [], []⟩) :: tr) T') : TRun P eq2 tab ops i (o :: l) T K := by
  by_cases hφ : φ
  · exact .yes hw hx hφ hs (h hφ)
  · exact .no hw hx hφ hs2 (h2 hφ)

/-- An answer that isn't parted: what is told of it is told of a Bool. -/
theorem TRun.bool {φ : Prop} {d : Decidable φ} (hw : TS.want ops o T = some true) (hx : aop eq2 tab o T.ev T.obj = .test φ d) (hs : T.appF o.dst (.bool (decide φ)) [] some = some T1)
    (h : TRun P eq2 tab ops (i + 1) l T1 fun tr T' => K ((i, ⟨opMents o T.ev, [], []⟩) :: tr) T') : TRun P eq2 tab ops i (o :: l) T K :=
  .test rfl hw hx hs h

def frzT (T : TS) (L : List Nat) : List (Nat × Option Obj) := L.map fun d => (d, (T.obj d).map frzO)

theorem TRun.call {c : Call} {fop : Operand} {g : FuncId} {caps : List AV} {r : AV} {args : List AV} (hw : TS.want ops o T = some true) (ho : o.op = .call c) (hc : c.callee = .value fop) (hg : T.ev fop = .fn g caps) (hr : Pure P g args r)
    (ha : (callArgs c caps T.ev).map (closeV T.obj 5) = args) (hm : mentsL args = []) (hcl : allP (closeP T.obj 5) (callArgs c caps T.ev))
    (hs : T.appF o.dst r (match r.flat with | true => [] | false => frzT T ((callArgs c caps T.ev).flatMap (visits T.obj 5))) some = some T1)
    (h : TRun P eq2 tab ops (i + 1) l T1 fun tr T' => K ((i, ⟨opMents o T.ev ++ (callArgs c caps T.ev).flatMap (visits T.obj 5), match r.flat with | true => [] | false => (callArgs c caps T.ev).flatMap (visits T.obj 5), []⟩) :: tr) T') : TRun P eq2 tab ops i (o :: l) T K := ⟨fun hgood => by
  rw [TS.appF_eq] at hs
  cases hs
  have h1 := TS.app_st hgood o.dst r (match r.flat with | true => [] | false => frzT T ((callArgs c caps T.ev).flatMap (visits T.obj 5)))
  have e : frz T.st ((callArgs c caps T.ev).flatMap (visits T.obj 5)) = frzT T ((callArgs c caps T.ev).flatMap (visits T.obj 5)) := by
    unfold frz frzT; rw [TS.st_obj]
  refine ARun.call (by rw [TS.want_st]; exact hw) ho hc (by rw [TS.st_ev]; exact hg) (by rw [TS.st_ev, TS.st_obj]; exact ha) hm hr (by rw [TS.st_ev, TS.st_obj]; exact hcl) (s1 := (T.app o.dst r (match r.flat with | true => [] | false => frzT T ((callArgs c caps T.ev).flatMap (visits T.obj 5)))).st) (by rw [TS.st_ev, TS.st_obj, e]; exact h1.1.symm) ?_
  rw [TS.st_ev, TS.st_obj]
  exact (h.run h1.2).mono fun tr s h => h⟩

theorem TRun.callB {c : Call} {fop : Operand} {g : FuncId} {caps : List AV} {b : Bool} {args : List AV} (hw : TS.want ops o T = some true) (ho : o.op = .call c) (hc : c.callee = .value fop) (hg : T.ev fop = .fn g caps) (hr : Pure P g args (.bool b))
    (ha : (callArgs c caps T.ev).map (closeV T.obj 5) = args) (hm : mentsL args = []) (hcl : allP (closeP T.obj 5) (callArgs c caps T.ev))
    (hs : T.appF o.dst (.bool true) [] some = some T1) (hs2 : T.appF o.dst (.bool false) [] some = some T2)
    (h : b = true → TRun P eq2 tab ops (i + 1) l T1 fun tr T' => K ((i, ⟨opMents o T.ev ++ (callArgs c caps T.ev).flatMap (visits T.obj 5), [], []⟩) :: tr) T')
    (h2 : b = false → TRun P eq2 tab ops (i + 1) l T2 fun tr T' => K ((i, ⟨opMents o T.ev ++ (callArgs c caps T.ev).flatMap (visits T.obj 5), [], []⟩) :: tr) T') : TRun P eq2 tab ops i (o :: l) T K := by
  cases b with
  | true => exact .call hw ho hc hg hr ha hm hcl hs (h rfl)
  | false => exact .call hw ho hc hg hr ha hm hcl hs2 (h2 rfl)

end
end Go.Proofs.Ytefbgdnobnemkaa.AM

namespace Go.Proofs.Ytefbgdnobnemkaa.AM
open Go Go.RowKit

/-- From a state that is told so the code comes to an exit and a state that are told so. -/
structure HoldsT (P : Program) (c : Code) (T : TS) (Q : Exit → TS → Prop) : Prop where
  run : T.good = true → Holds P c T.st fun e s => ∃ T', T'.good = true ∧ s = T'.st ∧ Q e T'

def thenT (N : TS → Prop) (Q : Exit → TS → Prop) : Exit → TS → Prop
  | .normal, s => N s
  | e, s => Q e s

def blockT (id : Nat) (Q : Exit → TS → Prop) : Exit → TS → Prop
  | .exit id', s => match Nat.beq id' id with
    | true => Q .normal s
    | false => Q (.exit id') s
  | e, s => Q e s

section
variable {P : Program} {eq2 : TypeId → Bool} {tab : Tab} {ops : Array Oper} {T T' : TS} {Q Q' : Exit → TS → Prop}

theorem Holds.mono {c : Code} {s : AState} {Q Q' : Exit → AState → Prop} (hq : ∀ e s, Q e s → Q' e s) (h : Holds P c s Q) : Holds P c s Q' := ⟨fun w0 A0 a w hs =>
  Go.wp_mono (h.run w0 A0 a w hs) fun _ _ _ ⟨s', h1, h2⟩ => ⟨s', hq _ _ h1, h2⟩⟩

theorem HoldsT.skip (h : Q .normal T) : HoldsT P .skip T Q := ⟨fun hg => .skip ⟨T, hg, rfl, h⟩⟩
theorem HoldsT.ret (h : Q .ret T) : HoldsT P .ret T Q := ⟨fun hg => .ret ⟨T, hg, rfl, h⟩⟩
theorem HoldsT.exit {id : Nat} (h : Q (.exit id) T) : HoldsT P (.exit id) T Q := ⟨fun hg => .exit ⟨T, hg, rfl, h⟩⟩

theorem HoldsT.seq {x y : Code} (h : HoldsT P x T (thenT (fun T => HoldsT P y T Q) Q)) : HoldsT P (.seq x y) T Q := ⟨fun hg => .seq ((h.run hg).mono fun e s hq => by
  obtain ⟨T', hg', rfl, hq⟩ := hq
  cases e with
  | normal => exact hq.run hg'
  | _ => exact ⟨T', hg', rfl, hq⟩)⟩

theorem HoldsT.block {id : Nat} {c : Code} (h : HoldsT P c T (blockT id Q)) : HoldsT P (.block id c) T Q := ⟨fun hg => .block ((h.run hg).mono fun e s hq => by
  obtain ⟨T', hg', rfl, hq⟩ := hq
  cases e with
  | exit id' =>
    simp only [blockT] at hq
    simp only [blockQ]
    cases hb : Nat.beq id' id with
    | true => rw [hb] at hq; exact ⟨T', hg', rfl, hq⟩
    | false => rw [hb] at hq; exact ⟨T', hg', rfl, hq⟩
  | _ => exact ⟨T', hg', rfl, hq⟩)⟩

theorem HoldsT.cond {c : Operand} {x y : Code} {b : Bool} (hc : T.ev c = .bool b) (ht : b = true → HoldsT P x T Q) (hf : b = false → HoldsT P y T Q) : HoldsT P (.cond c x y) T Q := ⟨fun hg =>
  .cond (by rw [TS.st_ev]; exact hc) (fun h => (ht h).run hg) (fun h => (hf h).run hg)⟩
theorem HoldsT.yes {c : Operand} {x y : Code} (hc : T.ev c = .bool true) (h : HoldsT P x T Q) : HoldsT P (.cond c x y) T Q := .cond hc (fun _ => h) (fun h => by cases h)
theorem HoldsT.no {c : Operand} {x y : Code} (hc : T.ev c = .bool false) (h : HoldsT P y T Q) : HoldsT P (.cond c x y) T Q := .cond hc (fun h => by cases h) (fun _ => h)

theorem HoldsT.region (hT : Tabs P eq2 tab) {id : Nat} (h : TRun P eq2 tab ops 0 ops.toList T (fun _ T' => Q .normal T')) : HoldsT P (.region id ops false) T Q := ⟨fun hg => .region hT (h.run hg)⟩

theorem HoldsT.drawn (hT : Tabs P eq2 tab) {id : Nat} (h : TRun P eq2 tab ops 0 ops.toList T (fun tr T' => okTr ops T.st tr = true ∧ Q .normal T')) : HoldsT P (.region id ops true) T Q := ⟨fun hg =>
  .drawn hT ((h.run hg).mono fun _ _ ⟨T', h1, h2, h3, h4⟩ => ⟨h3, T', h1, h2, h4⟩)⟩

theorem TRun.id {i : Nat} {l : List Oper} {K : List (Nat × Foot) → TS → Prop} (h : TRun P eq2 tab ops i l T K) : TRun P eq2 tab ops i l T K := h
theorem HoldsT.id {c : Code} (h : HoldsT P c T Q) : HoldsT P c T Q := h
theorem allProp_T {l : List Prop} (h : allProp l) : allProp (True :: l) := ⟨trivial, h⟩
theorem allProp_C {p : Prop} {l : List Prop} (hp : p) (h : allProp l) : allProp (p :: l) := ⟨hp, h⟩

/-- The function that an operation calls. -/
def calleeOf (T : TS) (o : Oper) : Option FuncId := match o.op with
  | .call c => match c.callee with
    | .value f => match T.ev f with
      | .fn g _ => some g
      | _ => none
    | _ => none
  | _ => none
theorem TRun.toCall (g : FuncId) {i : Nat} {o : Oper} {l : List Oper} {K : List (Nat × Foot) → TS → Prop} (_ : calleeOf T o = some g) (h : TRun P eq2 tab ops i (o :: l) T K) : TRun P eq2 tab ops i (o :: l) T K := h

/-- Less is told of the one than of the other. -/
inductive TTle : TT AV → TT AV → Prop
  | leaf {x y : AV} (h : AVle x y) : TTle (.leaf x) (.leaf y)
  | node {l r l' r' : TT AV} (h1 : TTle l l') (h2 : TTle r r') : TTle (.node l r) (.node l' r')
  | junk (t : TT AV) (k : Nat) : TTle t (J k)
  | same (t : TT AV) : TTle t t
inductive OOle : TT (Option Obj) → TT (Option Obj) → Prop
  | leaf (x : Option Obj) : OOle (.leaf x) (.leaf x)
  | gone (x : Option Obj) : OOle (.leaf x) (.leaf none)
  | node {l r l' r' : TT (Option Obj)} (h1 : OOle l l') (h2 : OOle r r') : OOle (.node l r) (.node l' r')
  | none (t : TT (Option Obj)) (k : Nat) : OOle t (OO k)
  | same (t : TT (Option Obj)) : OOle t t

theorem TTle.get {t t' : TT AV} (h : TTle t t') : ∀ i, AVle (t.get i) (t'.get i) := by
  induction h with
  | leaf h => exact fun _ => h
  | node _ _ ih1 ih2 =>
    intro i
    simp only [TT.get]
    cases Nat.beq (i % 2) 0 with
    | true => exact ih1 _
    | false => exact ih2 _
  | junk t k => intro i; rw [J_get]; exact .junk _
  | same t => exact fun _ => .refl _
theorem OOle.get {t t' : TT (Option Obj)} (h : OOle t t') : ∀ i, t'.get i = Option.none ∨ t'.get i = t.get i := by
  induction h with
  | leaf x => exact fun _ => .inr rfl
  | gone x => exact fun _ => .inl rfl
  | node _ _ ih1 ih2 =>
    intro i
    simp only [TT.get]
    cases Nat.beq (i % 2) 0 with
    | true => exact ih1 _
    | false => exact ih2 _
  | none t k => intro i; rw [OO_get]; exact .inl rfl
  | same t => exact fun _ => .inr rfl

theorem AVles.map {f g : Nat → AV} (h : ∀ i, AVle (f i) (g i)) : ∀ l : List Nat, AVles (l.map f) (l.map g)
  | [] => .nil
  | i :: l => .cons (h i) (AVles.map h l)
theorem Oles.map {f g : Nat → Option Obj} (h : ∀ i, g i = none ∨ g i = f i) : ∀ l : List Nat, Oles (l.map f) (l.map g)
  | [] => .nil
  | i :: l => by
    rw [List.map_cons, List.map_cons]
    rcases h i with h1 | h1 <;> rw [h1]
    · exact .gone (Oles.map h l)
    · exact .same (Oles.map h l)

structure WeakT (T T' : TS) : Prop where
  run : T.good = true → T'.good = true ∧ Weak T.st T'.st

theorem WeakT.of {n k k' : Nat} {t t' : TT AV} {o o' : TT (Option Obj)} (ht : TTle t t') (ho : OOle o o') (hg : (TS.mk n k' t' o').good = true) : WeakT ⟨n, k, t, o⟩ ⟨n, k', t', o'⟩ :=
  ⟨fun _ => ⟨hg, Weak.of (AVles.map ht.get _) (Oles.map ho.get _)⟩⟩
theorem WeakT.trans {T T' T'' : TS} (h : WeakT T T') (h' : WeakT T' T'') : WeakT T T'' := ⟨fun hg => ⟨(h'.run (h.run hg).1).1, (h.run hg).2.trans (h'.run (h.run hg).1).2⟩⟩
theorem WeakT.refl (T : TS) : WeakT T T := ⟨fun hg => ⟨hg, .refl _⟩⟩

/-- A row that is nothing yet is a row of the call, d its name. -/
theorem WeakT.canon {T T1 : TS} (t d : Nat) (e : TypeId) (c : AV) (hc : c.rowlen = some 0) (hcm : c.ncells = 0) (hn : T.tmp t = .nilsl) (hf : T.freshA [d] = true)
    (hs : (T.appF (some t) (.own d 0) [(d, some ⟨true, true, c, e⟩)] some) = some T1) : WeakT T T1 := ⟨fun hg => by
  rw [TS.appF_eq] at hs
  cases hs
  have h1 := TS.app_st hg (some t) (.own d 0) [(d, some ⟨true, true, c, e⟩)]
  refine ⟨h1.2, ?_⟩
  rw [h1.1]
  refine Weak.canon t d e c hc (fun i x h => ?_) (by rw [TS.st_tmp]; exact hn) (by simpa [TS.freshA] using hf) rfl
  have := AV.cell?_lt h
  omega⟩

theorem HoldsT.weak {c : Code} (h : WeakT T T') (hh : HoldsT P c T' Q) : HoldsT P c T Q := ⟨fun hg => .weak (h.run hg).2 (hh.run (h.run hg).1)⟩

/-- A loop whose states are told by a family. -/
theorem HoldsT.loop {c : Code} {α : Type} (shape : α → TS) (m : α → Nat) (ok : α → Prop) (x0 : α) (h0 : WeakT T (shape x0)) (hok : ok x0) (hgood : ∀ x, (shape x).good = true)
    (h : ∀ x, ok x → HoldsT P c (shape x) (thenT (fun T' => ∃ y, (m y < m x ∧ ok y) ∧ WeakT T' (shape y)) Q)) : HoldsT P (.loop c) T Q := .weak h0 ⟨fun hg =>
  .loopF (fun x => (shape x).st) m ok x0 (.refl _) hok fun x hx => ((h x hx).run (hgood x)).mono fun e s hq => by
    obtain ⟨T', hg', rfl, hq⟩ := hq
    cases e with
    | normal =>
      obtain ⟨y, hy, hw⟩ := hq
      exact ⟨y, hy, (hw.run hg').2⟩
    | _ => exact ⟨T', hg', rfl, hq⟩⟩

def resOneT (tab : Tab) (T : TS) : ResultVar → Option AV
  | .tmp t => some (T.tmp t)
  | .cell a t => match tab t, T.tmp a with
    | some ti, .ptr d off => match T.obj d with
      | some o => match o.c with
        | .agg cs => match ti.isAgg with
          | true => match Nat.ble (off + ti.size) cs.length with
            | true => some (.agg ((AV.agg cs).sub off ti.size))
            | false => none
          | false => match Nat.blt off cs.length with
            | true => some ((AV.agg cs).get off)
            | false => none
        | _ => none
      | none => none
    | _, _ => none

def resAllT (tab : Tab) (T : TS) : List ResultVar → Option (List AV)
  | [] => some []
  | r :: rs => match resOneT tab T r, resAllT tab T rs with
    | some x, some xs => some (x :: xs)
    | _, _ => none

def resT (tab : Tab) (T : TS) : List ResultVar → Option AV
  | [r] => resOneT tab T r
  | rs => (resAllT tab T rs).map .tup

theorem resOneT_some {r : ResultVar} {x : AV} (h : resOneT tab T r = some x) : resOne tab T.st r = some x := by
  cases r with
  | tmp t => simp only [resOne, TS.st_tmp]; exact h
  | cell a t =>
    simp only [resOneT] at h
    split at h
    · rename_i ti d off h1 h2
      split at h
      · rename_i o h3
        split at h
        · rename_i cs h4
          simp only [resOne, TS.st_tmp, TS.st_obj, h1, h2, h3, h4]
          split at h
          · rename_i h5
            split at h
            · rename_i h6; cases h; simp only [h5, h6]
            · cases h
          · rename_i h5
            split at h
            · rename_i h6; cases h; simp only [h5, h6]
            · cases h
        · cases h
      · cases h
    · cases h

theorem resAllT_some : ∀ {rs : List ResultVar} {xs : List AV}, resAllT tab T rs = some xs → resAll tab T.st rs = some xs
  | [], xs, h => h
  | r :: rs, xs, h => by
    simp only [resAllT] at h
    split at h
    · rename_i x xs h1 h2
      cases h
      simp only [resAll, resOneT_some h1, resAllT_some h2]
    · cases h

theorem resT_some {rs : List ResultVar} {x : AV} (h : resT tab T rs = some x) : resC tab T.st rs = some x := by
  have gen : ∀ {rs : List ResultVar} {x : AV}, (resAllT tab T rs).map AV.tup = some x → (resAll tab T.st rs).map AV.tup = some x := fun h => by
    rw [Option.map_eq_some_iff] at h
    obtain ⟨xs, h1, rfl⟩ := h
    rw [resAllT_some h1]; rfl
  match rs, h with
  | [], h => exact gen (rs := []) h
  | [r], h => exact resOneT_some h
  | a :: b :: rs, h => exact gen (rs := a :: b :: rs) h

def finT (tab : Tab) (rs : List ResultVar) (r : AV) : Exit → TS → Prop
  | .normal, T => FinC tab rs r T.st
  | .ret, T => FinC tab rs r T.st
  | _, _ => False

theorem FinC.t {tab : Tab} {rs : List ResultVar} {r x y : AV} {T : TS} (hx : resT tab T rs = some x) (h : closeV T.obj 5 x = y) (hc : closeP T.obj 5 x) (hr : AVle y r) : FinC tab rs r T.st :=
  ⟨x, y, resT_some hx, by rw [TS.st_obj]; exact h, by rw [TS.st_obj]; exact hc, hr⟩
theorem FinC.te {tab : Tab} {rs : List ResultVar} {r x y : AV} {T : TS} (hx : resT tab T rs = some x) (h : closeV T.obj 5 x = y) (hc : closeP T.obj 5 x) (hr : y = r) : FinC tab rs r T.st :=
  .t hx h hc (.rfl' hr)

/-- A function's law out of its body's. -/
theorem Pure.ofT (hT : TabOk P tab) {f : FuncId} {fn : Func} {c : Code} {args : List AV} {r : AV} (hf : P.funcs[f]? = some fn) (hb : fn.body = some c) (hg : (fn.name == "runtime.NumGoroutine") = false) (rs : List ResultVar)
    (hrs : fn.results = rs.toArray) (hl : rs.length ≤ 4) (hr : r.ments = []) (T0 : TS) (h0 : T0.st = begin fn.ntmps args) (hg0 : T0.good = true) (h : HoldsT P c T0 (finT tab rs r)) : Pure P f args r :=
  Pure.ofC hT hf hb hg rs hrs hl hr (h0 ▸ (h.run hg0).mono fun e s hq => by
    obtain ⟨T', _, rfl, hq⟩ := hq
    cases e <;> exact hq)

end
end Go.Proofs.Ytefbgdnobnemkaa.AM

namespace Go.Proofs.Ytefbgdnobnemkaa.AM
open Go Go.RowKit

/-- The rest of a region's operations, in the text's order. -/
structure SRun (P : Program) (ops : Array Oper) (i : Nat) (l : List Oper) (s : AState) (Q : AState → Prop) : Prop where
  run : (∀ j, l[j]? = ops[i + j]?) → ∀ (w0 : World) (A0 : Nat → Prop) (a : Act) (w : World) (QQ : Exit → Act → World → Prop), (∀ a w s', Q s' → Sim w0 A0 s' a w → QQ .normal a w) → Sim w0 A0 s a w → wpOps P ops QQ (List.range' i l.length) a w

/-- Called with arguments that read so the function returns a row of its own making, with these cells. -/
def PureOwn (P : Program) (f : FuncId) (args : List AV) (c : AV) (e : TypeId) : Prop :=
  (∀ (i : Nat) (x : AV), c.cell? i = some x → x.flat = true) ∧ (∃ fn, P.funcs[f]? = some fn ∧ (fn.name == "runtime.NumGoroutine") = false ∧ fn.body.isSome = true) ∧
  ∀ (A : Nat → Prop) (w : World) (vs : Array Value), (∀ b, A b → b < w.heap.size) → vs.size = args.length → (∀ i x, args[i]? = some x → R noRho A w (vs.getD i undef) x) →
    Calls P f vs w fun r w' => ∃ v n xs, r = .returned v ∧ c.rowlen = some n ∧ v.oneCell' = true ∧ w'.ownsRow w.heap.size e c.esz v n xs ∧ (∀ (i : Nat) (x : AV), c.cell? i = some x → ∃ u, xs[i]? = some u ∧ u.oneCell' = true ∧ R noRho (fun _ => False) w' u x) ∧
      (∀ b, v.ownBlock = some b → w.heap.size ≤ b ∧ b < w'.heap.size) ∧ Below w.heap.size w w'

section
variable {P : Program} {eq2 : TypeId → Bool} {tab : Tab} {ops : Array Oper} {i : Nat} {l : List Oper} {s s1 : AState} {Q : AState → Prop} {o : Oper}

theorem SRun.nil (h : Q s) : SRun P ops i [] s Q := ⟨fun _ _ _ _ _ _ hQ hs => hQ _ _ _ h hs⟩

theorem SRun.step (hT : Tabs P eq2 tab) {v : AV} {u : List (Nat × Option Obj)} {f : Foot} (hd : Does P eq2 tab ops o s v u f) (hs : s.app o.dst v u = s1) (h : SRun P ops (i + 1) l s1 Q) : SRun P ops i (o :: l) s Q := ⟨fun hl w0 A0 a w QQ hQ hsim => by
  rw [List.length_cons, List.range'_succ, wpOps_cons]
  refine Step.wpOp hT.tab hT.eq2 (by simpa using (hl 0).symm) ⟨v, u, hd, hs.symm⟩ hsim fun a w hs' => ?_
  exact h.run (fun j => by have := hl (j + 1); simpa [Nat.add_assoc, Nat.add_comm 1 j] using this) w0 A0 a w QQ hQ hs'⟩

/-- An operation of which something else is shown. -/
theorem SRun.other (hw : wantB ops o s = some true) (R1 : AState → Prop) (ho : ∀ w0 A0 A ρ a w (QQ : Exit → Act → World → Prop), St w0 A0 A ρ s a w → o.wp P a w (fun a w => ∃ s1, R1 s1 ∧ Sim w0 A0 s1 a w) QQ)
    (h : ∀ s1, R1 s1 → SRun P ops (i + 1) l s1 Q) : SRun P ops i (o :: l) s Q := ⟨fun hl w0 A0 a w QQ hQ hsim => by
  rw [List.length_cons, List.range'_succ, wpOps_cons]
  obtain ⟨A, ρ, hs⟩ := hsim
  unfold Go.wpOp
  rw [show ops[i]? = some o by simpa using (hl 0).symm]
  simp only
  rw [want_real hs hw, if_pos rfl]
  refine .inl (Oper.wp_mono (fun a w hq => ?_) (ho w0 A0 A ρ a w QQ hs))
  obtain ⟨s1, hr, hs1⟩ := hq
  exact (h s1 hr).run (fun j => by have := hl (j + 1); simpa [Nat.add_assoc, Nat.add_comm 1 j] using this) w0 A0 a w QQ hQ hs1⟩

theorem SRun.own {c : Call} {fop : Operand} {g : FuncId} {caps : List AV} {args : List AV} {r : AV} {e : TypeId} {d n : Nat} (hw : wantB ops o s = some true) (ho : o.op = .call c) (hc : c.callee = .value fop) (hg : s.ev fop = .fn g caps) (hr : PureOwn P g args r e)
    (ha : (callArgs c caps s.ev).map (closeV s.obj 5) = args) (hm : mentsL args = []) (hcl : allP (closeP s.obj 5) (callArgs c caps s.ev)) (hd : o.dst = some d) (hf : s.fresh d) (hn : r.rowlen = some n)
    (h : SRun P ops (i + 1) l (s.app o.dst (.own d n) [(d, some ⟨true, true, r, e⟩)]) Q) : SRun P ops i (o :: l) s Q := by
  refine SRun.other hw (fun s1 => s1 = s.app o.dst (.own d n) [(d, some ⟨true, true, r, e⟩)]) (fun w0 A0 A ρ a w QQ h => ?_) (fun s1 hs1 => hs1 ▸ h)
  obtain ⟨cs, hcs, hcsl, hcsR⟩ := (hg ▸ h.ev fop : R ρ A w (a.eval fop) _).fn_inv
  obtain ⟨hflat, hen, hcalls⟩ := hr
  subst ha
  unfold Oper.wp
  rw [exec_call ho hc hcs hen]
  generalize hL : (callArgs c caps s.ev).flatMap (visits s.obj 5) = L
  let A1 : Nat → Prop := fun b => A b ∨ ∃ d ∈ L, ∃ ro, (s.obj d).isSome = true ∧ ρ d = some ro ∧ ro.blk? = some b
  have hA1 : ∀ b, A1 b → b < w.heap.size := fun b hb => by
    rcases hb with hb | ⟨d, _, ro, _, hro, hb⟩
    · exact h.bound b hb
    · exact h.rbound d ro b hro hb
  have hargsR : ∀ i x, (callArgs c caps s.ev)[i]? = some x → R ρ A w ((c.args.map a.eval ++ cs).getD i undef) x := by
    intro i x hx
    unfold callArgs at hx
    rw [List.getElem?_append, List.length_map, Array.length_toList] at hx
    rw [Array.getD_eq_getD_getElem?, Array.getElem?_append, Array.size_map]
    split at hx
    · rename_i hi
      rw [if_pos hi]
      rw [List.getElem?_map, Option.map_eq_some_iff] at hx
      obtain ⟨q, hq, rfl⟩ := hx
      have hq' : c.args[i]? = some q := by rw [← Array.getElem?_toList]; exact hq
      rw [Array.getElem?_map, hq']
      exact h.ev q
    · rename_i hi
      rw [if_neg hi, ← Array.getD_eq_getD_getElem?]
      exact hcsR _ x hx
  have hcall := hcalls A1 w (c.args.map a.eval ++ cs) hA1 (by simp [callArgs, hcsl]) (fun i x hx => by
    rw [List.getElem?_map, Option.map_eq_some_iff] at hx
    obtain ⟨y, hy, rfl⟩ := hx
    have h1 := close_R h (A' := A1) (fun b hb => .inl hb) 5 ((hargsR i y hy).mono (fun b hb => .inl hb) (fun _ _ => rfl) (fun _ _ => rfl)) (allP_get hcl hy)
      (fun d hd o b hs hro hb => .inr ⟨d, by rw [← hL]; exact List.mem_flatMap.2 ⟨y, List.mem_of_getElem? hy, hd⟩, o, hs, hro, hb⟩)
    refine h1.mono (fun _ h => h) (fun _ _ => rfl) (fun d hd => ?_)
    have : d ∈ mentsL ((callArgs c caps s.ev).map (closeV s.obj 5)) := mem_mentsL (by rw [List.getElem?_map, hy]; rfl) hd
    rw [hm] at this
    cases this)
  refine hcall.mono fun e' w' ⟨v, n', xs, he, hn', h1, hown, hcells, hblk, hb⟩ => ?_
  subst he
  rw [hn] at hn'; cases hn'
  refine ⟨_, rfl, A, ρ.set d (.row v n), ?_⟩
  have hnew := h.newobj hf hb (ob := ⟨true, true, r, e⟩) (ro := .row v n) (fun b hb' => hblk b hb') ⟨hn, ⟨xs, ownsRow_base hown h.below.size, fun i x hx => by
      obtain ⟨u, hu, hu1, hR⟩ := hcells i x hx
      exact ⟨u, hu, hu1, hR.flat (hflat i x hx)⟩⟩, fun b hb' => ⟨(hblk b hb').2, fun _ hA => by have := h.bound b hA; have := (hblk b hb').1; omega, fun hw => by cases hw⟩⟩
  rw [hd]
  refine hnew.put (some d) (x := .own d n) (.own d n v h1 fun o u len ho hv => ?_)
  rw [Rho.set_same] at ho; cases ho
  cases hv
  exact ⟨Nat.le_refl _, fun _ => rfl⟩

theorem run_equalIn_nil (k : Nat) {t e : TypeId} {p : Option Addr} {m q : Nat} {w : World} (hu : P.underlying t = some (.slice e)) (hp : p = none → m = 0 ∧ q = 0) : (Op.equalIn (k + 1) t (.slice p m q) (.slice none 0 0)).run P w = .ok p.isNone w := by
  cases p with
  | none => obtain ⟨rfl, rfl⟩ := hp rfl; simp [Op.equalIn, run_underlying hu]
  | some a => simp [Op.equalIn, run_underlying hu]

theorem run_eq_nil {t e : TypeId} {v : Value} {c : AV} {n : Nat} {ρ : Rho} {A : Nat → Prop} {w : World} (hu : P.underlying t = some (.slice e)) (hc : c.rowlen = some n) (hv : R ρ A w v c) :
    ∃ b : Bool, (binOp .eql t v (.slice none 0 0)).run P w = .ok (.bool b) w ∧ v ≠ .nilIface ∧ v.oneCell' = true ∧ (0 < n → b = false) := by
  have key : ∀ (p : Option Addr) (m q : Nat), (p = none → m = 0 ∧ q = 0) → (binOp .eql t (.slice p m q) (.slice none 0 0)).run P w = .ok (.bool p.isNone) w := fun p m q hp => by
    have := run_equalIn_nil (P := P) 9999 (w := w) hu hp
    simp only [binOp, Sem.run_bind, Sem.run_pure, Op.equal, Op.maxDepth, this, Result.andThen_ok]
  rcases hv.row_inv hc with ⟨rfl, rfl⟩ | ⟨b, off, cap, vs, rfl, _⟩
  · exact ⟨true, key none 0 0 (fun _ => ⟨rfl, rfl⟩), by simp, rfl, fun h => absurd h (by omega)⟩
  · exact ⟨false, key _ _ _ (fun h => by cases h), by simp, rfl, fun _ => rfl⟩

/-- Is a row that nobody writes nil? Both may be, where it is empty. -/
theorem SRun.isNil {t t' e : TypeId} {x : Operand} {c : AV} {n : Nat} (hu : P.underlying t = some (.slice e)) (hw : wantB ops o s = some true) (ho : o.op = .binOp .eql t x (.const (.slice none 0 0)) t') (hc : s.ev x = c) (hn : c.rowlen = some n)
    (h : ∀ b : Bool, (0 < n → b = false) → SRun P ops (i + 1) l (s.app o.dst (.bool b) []) Q) : SRun P ops i (o :: l) s Q := by
  refine SRun.other hw (fun s1 => ∃ b : Bool, (0 < n → b = false) ∧ s1 = s.app o.dst (.bool b) []) (fun w0 A0 A ρ a w QQ hs => ?_) (fun s1 ⟨b, hb, hs1⟩ => hs1 ▸ h b hb)
  obtain ⟨b, h1, h2, h3, h4⟩ := run_eq_nil (P := P) hu hn (hc ▸ hs.ev x : R ρ A w (a.eval x) c)
  have hg := goes_value (P := P) hs (exec_bin ho (guard_plain _ _ _ _ h3 h2) h1) (v := .bool b) (.bool b)
  exact Oper.wp_mono (fun a w hk => ⟨_, ⟨b, h4, rfl⟩, hk⟩) hg.wp

end

/-- The rest of a region's operations, on trees. -/
structure URun (P : Program) (ops : Array Oper) (i : Nat) (l : List Oper) (T : TS) (Q : TS → Prop) : Prop where
  run : T.good = true → SRun P ops i l T.st fun s => ∃ T', T'.good = true ∧ s = T'.st ∧ Q T'

section
variable {P : Program} {eq2 : TypeId → Bool} {tab : Tab} {ops : Array Oper} {i : Nat} {l : List Oper} {T T1 T2 : TS} {Q : TS → Prop} {o : Oper}

theorem URun.id (h : URun P ops i l T Q) : URun P ops i l T Q := h
theorem URun.toCall (g : FuncId) (_ : calleeOf T o = some g) (h : URun P ops i (o :: l) T Q) : URun P ops i (o :: l) T Q := h
theorem URun.nil (h : Q T) : URun P ops i [] T Q := ⟨fun hg => .nil ⟨T, hg, rfl, h⟩⟩

theorem URun.skip (hT : Tabs P eq2 tab) (hw : TS.want ops o T = some false) (h : URun P ops (i + 1) l (T.app o.dst (.tup []) []) Q) : URun P ops i (o :: l) T Q := ⟨fun hg => by
  have h1 := TS.app_st hg o.dst (.tup []) []
  exact SRun.step hT (.skip (by rw [TS.want_st]; exact hw)) h1.1.symm (h.run h1.2)⟩

theorem URun.val (hT : Tabs P eq2 tab) {pre : Prop} {v : AV} {u : List (Nat × Option Obj)} {n : List Nat} (hw : TS.want ops o T = some true) (hx : aop eq2 tab o T.ev T.obj = .val pre v u n) (hf : T.freshA n = true) (hp : pre)
    (h : URun P ops (i + 1) l (T.app o.dst v u) Q) : URun P ops i (o :: l) T Q := ⟨fun hg => by
  have h1 := TS.app_st hg o.dst v u
  exact SRun.step hT (.val (by rw [TS.want_st]; exact hw) (by rw [TS.st_ev, TS.st_obj]; exact hx) hp (fun d hd => fresh_of (List.all_eq_true.1 hf d hd))) h1.1.symm (h.run h1.2)⟩

theorem many_runU (hT : Tabs P eq2 tab) : ∀ {l : List Oper} {i : Nat} {T : TS} {pre pre' : List Prop} {chk chk' : Bool} {tr tr' : List (Nat × Foot)} {i' : Nat} {l' : List Oper} {T' : TS},
    many eq2 tab ops l i T pre chk tr = .mk pre' chk' tr' i' l' T' → chk' = true → allProp pre' → URun P ops i' l' T' Q → URun P ops i l T Q
  | [], i, T, pre, pre', chk, chk', tr, tr', i', l', T', h, hc, hp, hr => by
    obtain ⟨rfl, rfl, rfl, rfl, rfl, rfl⟩ := MR.mk_inj h
    exact hr
  | o :: l, i, T, pre, pre', chk, chk', tr, tr', i', l', T', h, hc, hp, hr => by
    have stop : MR.mk pre chk tr i (o :: l) T = .mk pre' chk' tr' i' l' T' → URun P ops i (o :: l) T Q := fun h => by
      obtain ⟨rfl, rfl, rfl, rfl, rfl, rfl⟩ := MR.mk_inj h
      exact hr
    simp only [many] at h
    split at h
    · rename_i hw
      split at h
      · rename_i p v u n hx
        rw [TS.appF_eq] at h
        split at h
        · obtain ⟨⟨ps, h1⟩, _, _⟩ := many_grows h
          exact .val hT hw hx rfl (allProp_mem hp _ (by rw [h1]; simp)) (many_runU hT h hc hp hr)
        · obtain ⟨⟨ps, h1⟩, h2, _⟩ := many_grows h
          exact .val hT hw hx (Bool.and_eq_true _ _ ▸ h2 hc).2 (allProp_mem hp _ (by rw [h1]; simp)) (many_runU hT h hc hp hr)
      · exact stop h
    · rename_i hw
      rw [TS.appF_eq] at h
      exact .skip hT hw (many_runU hT h hc hp hr)
    · exact stop h

theorem URun.many (hT : Tabs P eq2 tab) {pre : List Prop} {chk : Bool} {tr : List (Nat × Foot)} {i' : Nat} {l' : List Oper} {T' : TS}
    (h : many eq2 tab ops l i T [] true [] = .mk pre chk tr i' l' T') (_ : Nat.blt i i' = true) (hc : chk = true) (hp : allProp pre) (hr : URun P ops i' l' T' Q) : URun P ops i l T Q :=
  many_runU hT h hc hp hr

theorem URun.test (hT : Tabs P eq2 tab) {φ : Prop} {d : Decidable φ} {b : Bool} (hb : decide φ = b) (hw : TS.want ops o T = some true) (hx : aop eq2 tab o T.ev T.obj = .test φ d) (hs : T.appF o.dst (.bool b) [] some = some T1)
    (h : URun P ops (i + 1) l T1 Q) : URun P ops i (o :: l) T Q := ⟨fun hg => by
  rw [TS.appF_eq] at hs
  cases hs
  have h1 := TS.app_st hg o.dst (.bool b) []
  exact SRun.step hT (.test (by rw [TS.want_st]; exact hw) (by rw [TS.st_ev, TS.st_obj]; exact hx)) (by rw [hb]; exact h1.1.symm) (h.run h1.2)⟩

theorem URun.yes (hT : Tabs P eq2 tab) {φ : Prop} {d : Decidable φ} (hw : TS.want ops o T = some true) (hx : aop eq2 tab o T.ev T.obj = .test φ d) (hφ : φ) (hs : T.appF o.dst (.bool true) [] some = some T1) (h : URun P ops (i + 1) l T1 Q) : URun P ops i (o :: l) T Q :=
  .test hT (decide_eq_true hφ) hw hx hs h
theorem URun.no (hT : Tabs P eq2 tab) {φ : Prop} {d : Decidable φ} (hw : TS.want ops o T = some true) (hx : aop eq2 tab o T.ev T.obj = .test φ d) (hφ : ¬ φ) (hs : T.appF o.dst (.bool false) [] some = some T1) (h : URun P ops (i + 1) l T1 Q) : URun P ops i (o :: l) T Q :=
  .test hT (decide_eq_false hφ) hw hx hs h
theorem URun.same (hT : Tabs P eq2 tab) {α : Type} {x : α} {d : Decidable (x = x)} (hw : TS.want ops o T = some true) (hx : aop eq2 tab o T.ev T.obj = .test (x = x) d) (hs : T.appF o.dst (.bool true) [] some = some T1) (h : URun P ops (i + 1) l T1 Q) : URun P ops i (o :: l) T Q :=
  .yes hT hw hx rfl hs h
theorem URun.same2 (hT : Tabs P eq2 tab) {x y : Int} {d : Decidable (x = x ∧ y = y)} (hw : TS.want ops o T = some true) (hx : aop eq2 tab o T.ev T.obj = .test (x = x ∧ y = y) d) (hs : T.appF o.dst (.bool true) [] some = some T1) (h : URun P ops (i + 1) l T1 Q) : URun P ops i (o :: l) T Q :=
  .yes hT hw hx ⟨rfl, rfl⟩ hs h
theorem URun.split (hT : Tabs P eq2 tab) {φ : Prop} {d : Decidable φ} (hw : TS.want ops o T = some true) (hx : aop eq2 tab o T.ev T.obj = .test φ d) (hs : T.appF o.dst (.bool true) [] some = some T1) (hs2 : T.appF o.dst (.bool false) [] some = some T2)
    (h : φ → URun P ops (i + 1) l T1 Q) (h2 : ¬ φ → URun P ops (i + 1) l T2 Q) : URun P ops i (o :: l) T Q := by
  by_cases hφ : φ
  · exact .yes hT hw hx hφ hs (h hφ)
  · exact .no hT hw hx hφ hs2 (h2 hφ)

theorem URun.call (hT : Tabs P eq2 tab) {c : Call} {fop : Operand} {g : FuncId} {caps : List AV} {r : AV} {args : List AV} (hw : TS.want ops o T = some true) (ho : o.op = .call c) (hc : c.callee = .value fop) (hg : T.ev fop = .fn g caps) (hr : Pure P g args r)
    (ha : (callArgs c caps T.ev).map (closeV T.obj 5) = args) (hm : mentsL args = []) (hcl : allP (closeP T.obj 5) (callArgs c caps T.ev))
    (hs : T.appF o.dst r (match r.flat with | true => [] | false => frzT T ((callArgs c caps T.ev).flatMap (visits T.obj 5))) some = some T1)
    (h : URun P ops (i + 1) l T1 Q) : URun P ops i (o :: l) T Q := ⟨fun hgood => by
  rw [TS.appF_eq] at hs
  cases hs
  have h1 := TS.app_st hgood o.dst r (match r.flat with | true => [] | false => frzT T ((callArgs c caps T.ev).flatMap (visits T.obj 5)))
  have e : frz T.st ((callArgs c caps T.ev).flatMap (visits T.obj 5)) = frzT T ((callArgs c caps T.ev).flatMap (visits T.obj 5)) := by
    unfold frz frzT; rw [TS.st_obj]
  subst ha
  have hd : Does P eq2 tab ops o T.st r _ _ := .call (r := r) (by rw [TS.want_st]; exact hw) ho hc (by rw [TS.st_ev]; exact hg) (by rw [TS.st_ev, TS.st_obj]; exact hcl) (by rw [TS.st_ev, TS.st_obj]; exact hm) (by rw [TS.st_ev, TS.st_obj]; exact hr)
  refine SRun.step hT hd (s1 := (T.app o.dst r (match r.flat with | true => [] | false => frzT T ((callArgs c caps T.ev).flatMap (visits T.obj 5)))).st) ?_ (h.run h1.2)
  rw [h1.1, TS.st_ev, TS.st_obj, e]
  cases r.flat <;> rfl⟩

theorem URun.callB (hT : Tabs P eq2 tab) {c : Call} {fop : Operand} {g : FuncId} {caps : List AV} {b : Bool} {args : List AV} (hw : TS.want ops o T = some true) (ho : o.op = .call c) (hc : c.callee = .value fop) (hg : T.ev fop = .fn g caps) (hr : Pure P g args (.bool b))
    (ha : (callArgs c caps T.ev).map (closeV T.obj 5) = args) (hm : mentsL args = []) (hcl : allP (closeP T.obj 5) (callArgs c caps T.ev))
    (hs : T.appF o.dst (.bool true) [] some = some T1) (hs2 : T.appF o.dst (.bool false) [] some = some T2)
    (h : b = true → URun P ops (i + 1) l T1 Q) (h2 : b = false → URun P ops (i + 1) l T2 Q) : URun P ops i (o :: l) T Q := by
  cases b with
  | true => exact .call hT hw ho hc hg hr ha hm hcl hs (h rfl)
  | false => exact .call hT hw ho hc hg hr ha hm hcl hs2 (h2 rfl)

theorem URun.own {c : Call} {fop : Operand} {g : FuncId} {caps : List AV} {args : List AV} {r : AV} {e : TypeId} {d n : Nat} (hw : TS.want ops o T = some true) (ho : o.op = .call c) (hc : c.callee = .value fop) (hg : T.ev fop = .fn g caps) (hr : PureOwn P g args r e)
    (ha : (callArgs c caps T.ev).map (closeV T.obj 5) = args) (hm : mentsL args = []) (hcl : allP (closeP T.obj 5) (callArgs c caps T.ev)) (hd : o.dst = some d) (hf : T.freshA [d] = true) (hn : r.rowlen = some n)
    (hs : T.appF o.dst (.own d n) [(d, some ⟨true, true, r, e⟩)] some = some T1) (h : URun P ops (i + 1) l T1 Q) : URun P ops i (o :: l) T Q := ⟨fun hgood => by
  rw [TS.appF_eq] at hs
  cases hs
  have h1 := TS.app_st hgood o.dst (.own d n) [(d, some ⟨true, true, r, e⟩)]
  have h2 := h.run h1.2
  rw [h1.1] at h2
  exact SRun.own (by rw [TS.want_st]; exact hw) ho hc (by rw [TS.st_ev]; exact hg) hr (by rw [TS.st_ev, TS.st_obj]; exact ha) hm (by rw [TS.st_ev, TS.st_obj]; exact hcl) hd (fresh_of (List.all_eq_true.1 hf d (by simp))) hn h2⟩

theorem URun.isNil {t t' e : TypeId} {x : Operand} {c : AV} {n : Nat} (hu : P.underlying t = some (.slice e)) (hw : TS.want ops o T = some true) (ho : o.op = .binOp .eql t x (.const (.slice none 0 0)) t') (hc : T.ev x = c) (hn : c.rowlen = some n)
    (hs : T.appF o.dst (.bool true) [] some = some T1) (hs2 : T.appF o.dst (.bool false) [] some = some T2) (h : n = 0 → URun P ops (i + 1) l T1 Q) (h2 : URun P ops (i + 1) l T2 Q) : URun P ops i (o :: l) T Q := ⟨fun hgood => by
  rw [TS.appF_eq] at hs hs2
  cases hs; cases hs2
  refine SRun.isNil hu (by rw [TS.want_st]; exact hw) ho (by rw [TS.st_ev]; exact hc) hn fun b hb => ?_
  have h1 := TS.app_st hgood o.dst (.bool b) []
  rw [← h1.1]
  cases b with
  | true =>
    refine (h ?_).run h1.2
    rcases Nat.eq_zero_or_pos n with h0 | h0
    · exact h0
    · cases hb h0
  | false => exact h2.run h1.2⟩

theorem HoldsT.regionU {id : Nat} {Q : Exit → TS → Prop} (h : URun P ops 0 ops.toList T (fun T' => Q .normal T')) : HoldsT P (.region id ops false) T Q := ⟨fun hg => ⟨fun w0 A0 a w hs => by
  refine wp_region ?_
  have := (h.run hg).run (by simp) w0 A0 a w (fun e a w => ∃ s', (∃ T', T'.good = true ∧ s' = T'.st ∧ Q e T') ∧ Sim w0 A0 s' a w) (fun a w s' hq hs => ⟨s', hq, hs⟩) hs
  rw [List.range_eq_range']
  simpa using this⟩⟩

/-- A function's law out of its body's, where the result is a row of its own making. -/
structure FinOwn (t : Tmp) (c : AV) (e : TypeId) (T : TS) : Prop where
  run : (∃ d n w, T.tmp t = .own d n ∧ T.obj d = some ⟨w, true, c, e⟩ ∧ c.rowlen = some n) ∨ (T.tmp t = .nilsl ∧ c.rowlen = some 0 ∧ c.ncells = 0)

theorem FinOwn.row {t : Tmp} {c c' : AV} {e : TypeId} {T : TS} {d n : Nat} {w : Bool} (h1 : T.tmp t = .own d n) (h2 : T.obj d = some ⟨w, true, c', e⟩) (hc : c' = c) (h3 : c.rowlen = some n) : FinOwn t c e T := ⟨.inl ⟨d, n, w, h1, hc ▸ h2, h3⟩⟩
theorem FinOwn.nil {t : Tmp} {c : AV} {e : TypeId} {T : TS} (h1 : T.tmp t = .nilsl) (h2 : c.rowlen = some 0) (h3 : c.ncells = 0) : FinOwn t c e T := ⟨.inr ⟨h1, h2, h3⟩⟩

def finOwn (t : Tmp) (c : AV) (e : TypeId) : Exit → TS → Prop
  | .normal, T => FinOwn t c e T
  | .ret, T => FinOwn t c e T
  | _, _ => False

theorem PureOwn.ofT {f : FuncId} {fn : Func} {code : Code} {args : List AV} {c : AV} {e : TypeId} (hf : P.funcs[f]? = some fn) (hb : fn.body = some code) (hg : (fn.name == "runtime.NumGoroutine") = false) (t : Tmp)
    (hrs : fn.results = #[.tmp t]) (hr : ∀ (i : Nat) (x : AV), c.cell? i = some x → x.flat = true) (T0 : TS) (h0 : T0.st = begin fn.ntmps args) (hg0 : T0.good = true) (h : HoldsT P code T0 (finOwn t c e)) : PureOwn P f args c e := by
  refine ⟨hr, ⟨fn, hf, hg, by rw [hb]; rfl⟩, fun A w vs hA hvl hv => calls_of_wp hf hb (Go.wp_mono ((h0 ▸ h.run hg0 : Holds P code (begin fn.ntmps args) _).run w A _ w ⟨A, noRho, St.begin hA hvl hv⟩) fun e' a w' hq => ?_)⟩
  obtain ⟨s', hq, A1, ρ, hs⟩ := hq
  obtain ⟨T', hgood, rfl, hq⟩ := hq
  have key : FinOwn t c e T' → a.defers = [] ∧ ∃ v, (results fn a.tmps).run P w' = .ok v w' ∧ ∃ v' n xs, Ending.returned v = .returned v' ∧ c.rowlen = some n ∧ v'.oneCell' = true ∧ w'.ownsRow w.heap.size e c.esz v' n xs ∧ (∀ (i : Nat) (x : AV), c.cell? i = some x → ∃ u, xs[i]? = some u ∧ u.oneCell' = true ∧ R noRho (fun _ => False) w' u x) ∧
      (∀ b, v'.ownBlock = some b → w.heap.size ≤ b ∧ b < w'.heap.size) ∧ Below w.heap.size w w' := fun hfin => by
    rcases hfin.run with ⟨d, n, wr, h1, h2, h3⟩ | ⟨h1, h2, h3⟩
    case inr =>
      have hR := hs.tmps t
      rw [TS.st_tmp, h1] at hR
      refine ⟨hs.defers, a.tmps.getD t undef, by simp [results, hrs], a.tmps.getD t undef, 0, [], rfl, h2, ?_⟩
      rw [hR.nilsl_inv]
      exact ⟨rfl, ⟨by simp, .inl ⟨rfl, rfl⟩⟩, fun i x hx => by have := AV.cell?_lt hx; omega, fun b (hb : Value.ownBlock (.slice none 0 0) = some b) => (by simp [Value.ownBlock] at hb), hs.below⟩
    have hro := hs.objs d
    rw [TS.st_obj, h2] at hro
    obtain ⟨ro, hρ, hok⟩ := hro
    have hR := hs.tmps t
    rw [TS.st_tmp, h1] at hR
    refine ⟨hs.defers, a.tmps.getD t undef, by simp [results, hrs], a.tmps.getD t undef, n, ?_⟩
    cases ro with
    | box b => exact absurd (h3.symm.trans hok.1) (by simp)
    | fix b m cap => exact absurd hok.1 (by simp)
    | row u m =>
      obtain ⟨k1, ⟨xs, k2, k3⟩, k4⟩ := hok
      have hm : m = n := by rw [h3] at k1; cases k1; rfl
      subst hm
      have hu := hR.own_inv hρ (u := u) rfl rfl
      rw [hu]
      refine ⟨xs, rfl, h3, ?_, k2, fun i x hx => ?_, fun b hb => ?_, hs.below⟩
      · rcases k2.2 with ⟨rfl, _⟩ | ⟨g, cap, cur, rfl, _⟩ <;> rfl
      · obtain ⟨v, hv, hv1, hvR⟩ := k3 i x hx
        exact ⟨v, hv, hv1, hvR.flat (hr i x hx)⟩
      · refine ⟨?_, (k4 b hb).1⟩
        rcases k2.2 with ⟨rfl, _⟩ | ⟨g, cap, cur, rfl, hg', _⟩
        · cases hb
        · cases hb; exact hg'
  cases e' with
  | normal => exact key hq
  | ret => exact key hq
  | exit id => exact hq.elim
  | goto l => exact hq.elim
  | panic c => exact hq.elim
  | outgrown => exact hq.elim

/-- A row of its own making is a row that nobody writes. -/
theorem PureOwn.toPure {f : FuncId} {args : List AV} {c : AV} {e : TypeId} (h : PureOwn P f args c e) (hm : c.ments = []) : Pure P f args c := by
  obtain ⟨h1, h2, h3⟩ := h
  refine ⟨hm, h2, fun A w vs hA hl hv => (h3 A w vs hA hl hv).mono fun r w' ⟨v, n, xs, hr, hn, hv1, hown, hcells, hblk, hb⟩ => ⟨v, hr, ?_, hb⟩⟩
  rcases hown.2 with ⟨rfl, rfl⟩ | ⟨g, cap, cur, rfl, _, k2, k3, _, _, k6⟩
  · exact .row0 _ hn
  · refine .row g 0 n cap c (fun i => xs.getD i undef) hn (.inr (hblk g rfl)) k3 (fun i x hx => ?_) (fun i x hx => ?_) (fun i x hx => ?_)
    · obtain ⟨u, hu, _⟩ := hcells i x hx
      have hu' : cur[i]? = some u := by
        rw [← k6] at hu
        rw [← Array.getElem?_toList]
        rw [List.getElem?_take] at hu
        split at hu
        · exact hu
        · cases hu
      simp [World.cell?, k2, hu', hu]
    · obtain ⟨u, hu, _, hR⟩ := hcells i x hx
      simp only [List.getD_eq_getElem?_getD, hu, Option.getD_some]
      exact hR.flat (h1 i x hx)
    · obtain ⟨u, hu, hu1, _⟩ := hcells i x hx
      simp only [List.getD_eq_getElem?_getD, hu, Option.getD_some]
      exact hu1

theorem lenEq_intro {α : Type} {l : List α} {n : Nat} (h : l.length = n) : l.length = n := h

theorem flatS {xs : List (List UInt8)} (i : Nat) (x : AV) (h : (AV.slS xs).cell? i = some x) : x.flat = true := by
  simp only [AV.cell?, Option.map_eq_some_iff] at h
  obtain ⟨a, _, rfl⟩ := h
  rfl

end
end Go.Proofs.Ytefbgdnobnemkaa.AM

namespace Go.Proofs.Ytefbgdnobnemkaa.AM
open Go Go.RowKit

def Rho.swap (ρ : Rho) (d d' : Nat) (o : RO) : Rho := fun x => if x = d' then some o else if x = d then none else ρ x

section
variable {P : Program} {eq2 : TypeId → Bool} {tab : Tab} {w0 : World} {A0 A : Nat → Prop} {ρ : Rho} {s s1 : AState} {a : Act} {w : World} {ops : Array Oper} {i : Nat} {l : List Oper} {Q : AState → Prop} {o : Oper}

/-- An object goes, another one comes in its place. -/
theorem St.swap (h : St w0 A0 A ρ s a w) {d d' : Nat} {ro ro' : RO} {ob' : Obj} (hne : d ≠ d') (hf : s.fresh d') (hro : ρ d = some ro) (hblk : ro'.blk? = ro.blk?) (hment : ∀ x ∈ ob'.c.ments, x ≠ d ∧ x ≠ d')
    (hok : ObjOk (ρ.swap d d' ro') A w0.heap.size w ob' ro') : St w0 A0 A (ρ.swap d d' ro') ((s.upd d none).upd d' (some ob')) a w := by
  have sub : ∀ x o, x ≠ d' → ρ.swap d d' ro' x = some o → ρ x = some o := fun x o hx ho => by
    unfold Rho.swap at ho
    rw [if_neg hx] at ho
    split at ho
    · cases ho
    · exact ho
  have at' : ρ.swap d d' ro' d' = some ro' := by simp [Rho.swap]
  refine ⟨h.defers, h.len, fun i => (h.tmps i).later (fun _ h => h) (fun _ _ => rfl) (fun x hx o' ho' => ?_), h.below, h.bound, h.orig, h.keep, fun x o b ho hbo => ?_, fun x x' o o' b ho ho' hbo hbo' => ?_, fun x => ?_⟩
  · have hxd : x ≠ d' := fun e => hf.1 i (e ▸ hx)
    exact ⟨o', sub x o' hxd ho', RO.le_refl _⟩
  · by_cases hx : x = d'
    · subst hx
      rw [at'] at ho; cases ho
      exact h.rbound d ro b hro (hblk ▸ hbo)
    · exact h.rbound x o b (sub x o hx ho) hbo
  · by_cases hx : x = d' <;> by_cases hx' : x' = d'
    · rw [hx, hx']
    · subst hx
      rw [at'] at ho; cases ho
      have h1 := sub x' o' hx' ho'
      have := h.inj d x' ro o' b hro h1 (hblk ▸ hbo) hbo'
      subst this
      unfold Rho.swap at ho'
      rw [if_neg hx', if_pos rfl] at ho'
      cases ho'
    · subst hx'
      rw [at'] at ho'; cases ho'
      have h1 := sub x o hx ho
      have := h.inj d x ro o b hro h1 (hblk ▸ hbo') hbo
      subst this
      unfold Rho.swap at ho
      rw [if_neg hx, if_pos rfl] at ho
      cases ho
    · exact h.inj x x' o o' b (sub x o hx ho) (sub x' o' hx' ho') hbo hbo'
  · rw [AState.obj_upd, AState.obj_upd]
    by_cases hx : x = d'
    · subst hx
      by_cases hl : x < (s.upd d none).objs.length
      · rw [if_pos ⟨rfl, hl⟩]
        exact ⟨ro', at', hok⟩
      · rw [if_neg (fun h => hl h.2)]
        have : (s.upd d none).objs.length = s.objs.length := by simp [AState.upd]
        rw [if_neg (fun h => hne h.1)]
        have : s.obj x = none := by
          unfold AState.obj
          rw [List.getD_eq_getElem?_getD, List.getElem?_eq_none (by omega)]; rfl
        rw [this]; trivial
    · rw [if_neg (fun h => hx h.1.symm)]
      by_cases hxd : d = x ∧ d < s.objs.length
      · rw [if_pos hxd]; trivial
      · rw [if_neg hxd]
        have := h.objs x
        split
        · trivial
        · rename_i ob hob
          simp only [hob] at this
          obtain ⟨o, ho, hok⟩ := this
          have hxd' : x ≠ d := fun e => by
            subst e
            unfold AState.obj at hob
            rw [List.getD_eq_getElem?_getD] at hob
            have : x < s.objs.length := by
              rcases Nat.lt_or_ge x s.objs.length with h | h
              · exact h
              · rw [List.getElem?_eq_none h] at hob; cases hob
            exact hxd ⟨rfl, this⟩
          refine ⟨o, ?_, hok.later (fun _ h => h) (fun _ _ h => h) (fun _ _ => rfl) (fun _ _ => rfl) (Nat.le_refl _) (fun y hy o' ho' => ?_)⟩
          · unfold Rho.swap; rw [if_neg hx, if_neg hxd']; exact ho
          · have hyd : y ≠ d' := fun e => hf.2 x ob hx hob (e ▸ hy)
            exact ⟨o', sub y o' hyd ho', RO.le_refl _⟩

/-- The first q elements of a row. -/
def AV.shrink (c : AV) (q : Nat) : AV := match c with
  | .slS xs => .slS (xs.take q)
  | .slB bs => .slB (bs.take q)
  | .slG sz cs => .slG sz (cs.take (q * sz))
  | c => c

theorem shrink_ok {c : AV} {m q : Nat} (hm : c.rowlen = some m) (hq : q ≤ m) : (c.shrink q).rowlen = some q ∧ (c.shrink q).esz = c.esz ∧ (∀ i x, (c.shrink q).cell? i = some x → i < q * c.esz ∧ c.cell? i = some x) ∧ ∀ x ∈ (c.shrink q).ments, x ∈ c.ments := by
  have sub : ∀ {l : List AV} {k x : Nat}, x ∈ mentsL (l.take k) → x ∈ mentsL l := by
    intro l
    induction l with
    | nil => intro k x h; simpa using h
    | cons y l ih =>
      intro k x h
      cases k with
      | zero => simp [mentsL] at h
      | succ k =>
        simp only [List.take_succ_cons, mentsL, List.mem_append] at h ⊢
        exact h.imp (fun h => h) ih
  have tk : ∀ {α : Type} {l : List α} {k i : Nat} {x : α}, (l.take k)[i]? = some x → i < k ∧ l[i]? = some x := by
    intro α l k i x h
    have hlt := (List.getElem?_eq_some_iff.1 h).1
    rw [List.length_take] at hlt
    exact ⟨by omega, by rwa [List.getElem?_take_of_lt (by omega)] at h⟩
  cases c with
  | slS xs =>
    simp only [AV.rowlen, Option.some.injEq] at hm
    refine ⟨by simp [AV.shrink, AV.rowlen]; omega, rfl, fun i x hx => ?_, fun x hx => hx⟩
    simp only [AV.shrink, AV.cell?, Option.map_eq_some_iff, AV.esz] at hx ⊢
    obtain ⟨y, hy, rfl⟩ := hx
    obtain ⟨h1, h2⟩ := tk hy
    exact ⟨by omega, y, h2, rfl⟩
  | slB xs =>
    simp only [AV.rowlen, Option.some.injEq] at hm
    refine ⟨by simp [AV.shrink, AV.rowlen]; omega, rfl, fun i x hx => ?_, fun x hx => hx⟩
    simp only [AV.shrink, AV.cell?, Option.map_eq_some_iff, AV.esz] at hx ⊢
    obtain ⟨y, hy, rfl⟩ := hx
    obtain ⟨h1, h2⟩ := tk hy
    exact ⟨by omega, y, h2, rfl⟩
  | slG sz cs =>
    obtain ⟨h0, h1⟩ := rowlen_G_inv hm
    have hle : q * sz ≤ m * sz := Nat.mul_le_mul_right _ hq
    refine ⟨rowlen_G h0 (by rw [List.length_take]; omega), rfl, fun i x hx => ?_, fun x hx => ?_⟩
    · simp only [AV.shrink, AV.cell?, AV.esz] at hx ⊢
      exact tk hx
    · simp only [AV.shrink, AV.ments] at hx ⊢
      exact sub hx
  | _ => simp [AV.rowlen] at hm

/-- A row of the call's own is made shorter: it bears another name then. -/
theorem SRun.shrink {t e : TypeId} {x y : Operand} {ti ei : TI} {d m dst : Nat} {k : IntKind} {q : Int} {ob : Obj} {c : AV} (hT : TabOk P tab) (h1 : tab t = some ti) (hk : ti.k = .slice e) (h2 : tab e = some ei) (hw : wantB ops o s = some true) (ho : o.op = .slice t x none (some y) none)
    (_ : o.dst = some dst) (hx : s.ev x = .own d m) (hy : s.ev y = .int k q) (hob : s.obj d = some ob) (happ : ob.app = true) (hwr : ob.wr = true) (hm : ob.c.rowlen = some m) (h0 : 0 ≤ q) (hq : q ≤ (m : Int)) (hfl : ob.c.ments = []) (hne : d ≠ dst) (hf : s.fresh dst) (hc : ob.c.shrink q.toNat = c)
    (h : SRun P ops (i + 1) l (s.app o.dst (.own dst q.toNat) [(d, none), (dst, some ⟨true, true, c, ob.e⟩)]) Q) : SRun P ops i (o :: l) s Q := by
  refine SRun.other hw (fun s1 => s1 = s.app o.dst (.own dst q.toNat) [(d, none), (dst, some ⟨true, true, c, ob.e⟩)]) (fun w0 A0 A ρ a w QQ hs => ?_) (fun s1 hs1 => hs1 ▸ h)
  have hu := und_slice (hT t ti h1) hk
  have hsz := fun w => run_sizeOf' (hT e ei h2) w
  obtain ⟨ro, hro, hok⟩ := hs.live hob
  cases ro with
  | box b => obtain ⟨h0, _⟩ := hok; rw [hm] at h0; cases h0
  | fix b n cap => obtain ⟨h0, _⟩ := hok; rw [happ] at h0; cases h0
  | row u n =>
    obtain ⟨k1, ⟨vs, k2, k3⟩, k4⟩ := hok
    rw [hm] at k1; cases k1
    have r1 := (hx ▸ hs.ev x : R ρ A w (a.eval x) _).own_inv hro (u := u) rfl rfl
    have r2 := (hy ▸ hs.ev y : R ρ A w (a.eval y) _).int_inv
    obtain ⟨c1, c2, c3, c4⟩ := shrink_ok hm (show q.toNat ≤ m by omega)
    rw [hc] at c1 c2 c3 c4
    have hval : ∃ u', (Instr.sliceAt t u none (some (.int k q)) none).run P w = .ok u' w ∧ u'.oneCell' = true ∧ u'.ownBlock = u.ownBlock ∧ w.ownsRow w0.heap.size ob.e ob.c.esz u' q.toNat (vs.take (q.toNat * ob.c.esz)) := by
      rcases k2.2 with ⟨rfl, rfl⟩ | ⟨g, cap, cur, rfl, j1, j2, j3, j4, j5, j6⟩
      · have hq0 : q = 0 := by omega
        subst hq0
        obtain ⟨hr, _⟩ := run_bounds (P := P) (w := w) (isS := true) (len := 0) (cap := 0) (l := none) (h := some 0) (vl := none) (vh := some (.int k 0)) (.inl ⟨rfl, rfl⟩) (.inr ⟨k, 0, rfl, rfl⟩) (by simp [cutPre]) (Nat.le_refl _)
        refine ⟨.slice none 0 0, by simp [Instr.sliceAt, run_underlying hu, Instr.slice, hr, hsz, hiN, loN], rfl, rfl, by simp, .inl ⟨rfl, rfl⟩⟩
      · obtain ⟨hr, _⟩ := run_bounds (P := P) (w := w) (isS := true) (len := m) (cap := cap) (l := none) (h := some q) (vl := none) (vh := some (.int k q)) (.inl ⟨rfl, rfl⟩) (.inr ⟨k, q, rfl, rfl⟩) (by simp [cutPre]; omega) j3
        refine ⟨.slice (some ⟨g, 0, none⟩) q.toNat cap, ?_, rfl, rfl, ?_, .inr ⟨g, cap, cur, rfl, j1, j2, by omega, j4, j5, ?_⟩⟩
        · simp [Instr.sliceAt, run_underlying hu, Instr.slice, hr, hsz, hiN, loN, Addr.add_lit]
        · have : q.toNat * ob.c.esz ≤ m * ob.c.esz := Nat.mul_le_mul_right _ (by omega)
          rw [List.length_take, k2.1]; omega
        · have : q.toNat * ob.c.esz ≤ m * ob.c.esz := Nat.mul_le_mul_right _ (by omega)
          rw [← j6, List.take_take, Nat.min_eq_left this]
    obtain ⟨u', v1, v2, v3, v4⟩ := hval
    have hnom : ∀ (i : Nat) (x : AV), c.cell? i = some x → ∀ y, y ∈ x.ments → False := fun i x hx y hy => by
      have := AV.cell?_ments (c3 i x hx).2 hy
      rw [hfl] at this; cases this
    have hok' : ObjOk (ρ.swap d dst (.row u' q.toNat)) A w0.heap.size w ⟨true, true, c, ob.e⟩ (.row u' q.toNat) := by
      refine ⟨c1, ⟨_, by rw [c2]; exact v4, fun i x hx => ?_⟩, fun b hb => ⟨(k4 b (v3 ▸ hb)).1, fun _ => (k4 b (v3 ▸ hb)).2.1 hwr, fun h => by cases h⟩⟩
      obtain ⟨j1, j2⟩ := c3 i x hx
      obtain ⟨v, hv, hv1, hvR⟩ := k3 i x j2
      exact ⟨v, by rw [List.getElem?_take_of_lt j1]; exact hv, hv1, hvR.mono (fun _ h => h) (fun _ _ => rfl) (fun y hy => (hnom i x hx y hy).elim)⟩
    have hst := hs.swap (ob' := ⟨true, true, c, ob.e⟩) (ro' := .row u' q.toNat) hne hf hro v3 (fun x hx => by have := c4 x hx; rw [hfl] at this; cases this) hok'
    refine Goes.wp (.inl ⟨u', w, ?_, _, ⟨rfl, A, _, hst.put o.dst (x := .own dst q.toNat) (.own dst q.toNat u' v2 fun o' u2 len2 ho' hv' => ?_)⟩⟩)
    · simp only [execOp, ho, r1, r2, Sem.run_bind, Option.map_none, Option.map_some, v1, Result.andThen_ok, Sem.run_pure]
    · simp only [Rho.swap, if_true, Option.some.injEq] at ho'
      subst ho'
      cases hv'
      exact ⟨Nat.le_refl _, fun _ => rfl⟩

/-- A row of the call's own under another name. -/
theorem Weak.rename {s s' : AState} (t d d' n : Nat) {ob : Obj} (hne : d ≠ d') (hn : s.tmps.getD t .junk = .own d n) (hob : s.obj d = some ob) (happ : ob.app = true) (_ : ob.wr = true) (hm : ob.c.rowlen = some n) (hfl : ob.c.ments = []) (hf : freshB s d' = true)
    (hs' : s.app (some t) (.own d' n) [(d, none), (d', some ob)] = s') : Weak s s' := ⟨fun w0 A0 a w hs => by
  subst hs'
  obtain ⟨A, ρ, hs⟩ := hs
  obtain ⟨ro, hro, hok⟩ := hs.live hob
  cases ro with
  | box b => obtain ⟨h0, _⟩ := hok; rw [hm] at h0; cases h0
  | fix b n cap => obtain ⟨h0, _⟩ := hok; rw [happ] at h0; cases h0
  | row u m =>
    have hok0 := hok
    obtain ⟨k1, ⟨vs, k2, k3⟩, k4⟩ := hok
    rw [hm] at k1; cases k1
    have hnom : ∀ (i : Nat) (x : AV), ob.c.cell? i = some x → ∀ y, y ∈ x.ments → False := fun i x hx y hy => by
      have := AV.cell?_ments hx hy
      rw [hfl] at this; cases this
    have hst := hs.swap (ob' := ob) (ro' := .row u n) hne (fresh_of hf) hro rfl (fun x hx => by rw [hfl] at hx; cases hx)
      ⟨hm, ⟨vs, k2, fun i x hx => by
        obtain ⟨v, hv, hv1, hvR⟩ := k3 i x hx
        exact ⟨v, hv, hv1, hvR.mono (fun _ h => h) (fun _ _ => rfl) (fun y hy => (hnom i x hx y hy).elim)⟩⟩, k4⟩
    have hu := (hn ▸ hs.tmps t : R ρ A w (a.tmps.getD t undef) _).own_inv hro (u := u) rfl rfl
    have hR := hs.tmps t
    rw [hn] at hR
    have h2 := hst.put (some t) (v := u) (x := .own d' n) (.own d' n u (by rcases k2.2 with ⟨rfl, _⟩ | ⟨g, cap, cur, rfl, _⟩ <;> rfl) fun o' u2 len2 ho' hv' => by
      simp only [Rho.swap, if_true, Option.some.injEq] at ho'
      subst ho'
      cases hv'
      exact ⟨Nat.le_refl _, fun _ => rfl⟩)
    have h3 : a.put (some t) u = a := by
      simp only [Act.put]
      congr 1
      apply Array.ext
      · simp
      · intro i h1 h2
        rw [Array.getElem_setIfInBounds]
        split
        · rename_i e
          subst e
          have h2' : t < a.tmps.size := by simpa using h2
          simp only [Array.getD_eq_getD_getElem?, Array.getElem?_eq_getElem h2', Option.getD_some] at hu
          exact hu.symm
        · rfl
    rw [h3] at h2
    exact ⟨A, _, h2⟩⟩

end

section
variable {P : Program} {eq2 : TypeId → Bool} {tab : Tab} {ops : Array Oper} {i : Nat} {l : List Oper} {T T1 : TS} {Q : TS → Prop} {o : Oper}

theorem URun.shrink {t e : TypeId} {x y : Operand} {ti ei : TI} {d m dst : Nat} {k : IntKind} {q : Int} {ob : Obj} {c : AV} (hT : Tabs P eq2 tab) (hw : TS.want ops o T = some true) (ho : o.op = .slice t x none (some y) none) (h1 : tab t = some ti) (hk : ti.k = .slice e) (h2 : tab e = some ei)
    (hd : o.dst = some dst) (hx : T.ev x = .own d m) (hy : T.ev y = .int k q) (hob : T.obj d = some ob) (happ : ob.app = true) (hwr : ob.wr = true) (hm : ob.c.rowlen = some m) (h0 : 0 ≤ q ∧ q ≤ (m : Int)) (hfl : ob.c.ments = []) (hne : Nat.beq d dst = false) (hf : T.freshA [dst] = true) (hc : ob.c.shrink q.toNat = c)
    (hs : T.appF o.dst (.own dst q.toNat) [(d, none), (dst, some ⟨true, true, c, ob.e⟩)] some = some T1) (h : URun P ops (i + 1) l T1 Q) : URun P ops i (o :: l) T Q := ⟨fun hgood => by
  rw [TS.appF_eq] at hs
  cases hs
  have h1' := TS.app_st hgood o.dst (.own dst q.toNat) [(d, none), (dst, some ⟨true, true, c, ob.e⟩)]
  have h2' := h.run h1'.2
  rw [h1'.1] at h2'
  have hne' : d ≠ dst := fun e => by subst e; simp at hne
  exact SRun.shrink hT.tab h1 hk h2 (by rw [TS.want_st]; exact hw) ho hd (by rw [TS.st_ev]; exact hx) (by rw [TS.st_ev]; exact hy) (by rw [TS.st_obj]; exact hob) happ hwr hm h0.1 h0.2 hfl hne' (fresh_of (List.all_eq_true.1 hf dst (by simp))) hc h2'⟩

theorem WeakT.rename (t d d' n : Nat) {ob : Obj} (hne : Nat.beq d d' = false) (hn : T.tmp t = .own d n) (hob : T.obj d = some ob) (happ : ob.app = true) (hwr : ob.wr = true) (hm : ob.c.rowlen = some n) (hfl : ob.c.ments = []) (hf : T.freshA [d'] = true)
    (hs : (T.appF (some t) (.own d' n) [(d, none), (d', some ob)] some) = some T1) : WeakT T T1 := ⟨fun hg => by
  rw [TS.appF_eq] at hs
  cases hs
  have h1 := TS.app_st hg (some t) (.own d' n) [(d, none), (d', some ob)]
  have hne' : d ≠ d' := fun e => by subst e; simp at hne
  refine ⟨h1.2, ?_⟩
  rw [h1.1]
  exact Weak.rename t d d' n hne' (by rw [TS.st_tmp]; exact hn) (by rw [TS.st_obj]; exact hob) happ hwr hm hfl (List.all_eq_true.1 hf d' (by simp)) rfl⟩

/-- A row of cells that are bytes is a row of bytes. -/
def byteCells (bs : List UInt8) : List AV := bs.map fun b => .int .u8 (b.toNat : Int)

theorem AVle.bytes (bs : List UInt8) : AVle (.slG 1 (byteCells bs)) (.slB bs) := ⟨fun ρ A w v h => by
  have hrow : (AV.slG 1 (byteCells bs)).rowlen = some bs.length := by simp [AV.rowlen, byteCells]
  have hcell : ∀ i x, (AV.slB bs).cell? i = some x → (AV.slG 1 (byteCells bs)).cell? i = some x := fun i x hx => by
    simpa [AV.cell?, byteCells] using hx
  rcases h.row_inv hrow with ⟨rfl, h0⟩ | ⟨b, off, cap, vs, rfl, hA, hc, h1, h2, h3⟩
  · exact .row0 _ (by simp [AV.rowlen, h0])
  · exact .row b off bs.length cap (.slB bs) vs rfl hA hc (fun i x hx => h1 i x (hcell i x hx)) (fun i x hx => h2 i x (hcell i x hx)) (fun i x hx => h3 i x (hcell i x hx))⟩

theorem byteCells_append (bs : List UInt8) {k : Int} (hk : inK .u8 k) : byteCells bs ++ [.int .u8 k] = byteCells (bs ++ [UInt8.ofNat k.toNat]) := by
  have : ((UInt8.ofNat k.toNat).toNat : Int) = k := by
    have h1 := hk.1
    have h2 := hk.2
    rw [UInt8.toNat_ofNat']
    omega
  simp only [byteCells, List.map_append, List.map_cons, List.map_nil, this]
theorem byteCells_take (bs : List UInt8) (n : Nat) : (byteCells bs).take n = byteCells (bs.take n) := by simp [byteCells, List.map_take]
theorem byteCells_length (bs : List UInt8) : (byteCells bs).length = bs.length := by simp [byteCells]
theorem toBs_cells : ∀ bs : List UInt8, toBs (byteCells bs) = some bs
  | [] => rfl
  | b :: bs => by
    have := toBs_cells bs
    simp only [byteCells, List.map_cons, toBs] at this ⊢
    rw [this]
    simp
theorem byteCells_rowlen (bs : List UInt8) : (AV.slG 1 (byteCells bs)).rowlen = some bs.length := by simp [AV.rowlen, byteCells]
theorem byteCells_ments (bs : List UInt8) : (AV.slG 1 (byteCells bs)).ments = [] := by
  simp only [AV.ments]
  induction bs with
  | nil => rfl
  | cons b bs ih => simpa [byteCells, mentsL, AV.ments] using ih

/-- Numbers that are bytes. -/
def allU8 : List AV → Prop
  | [] => True
  | .int .u8 n :: l => (0 ≤ n ∧ n ≤ 255) ∧ allU8 l
  | _ => False

theorem cells_of_toBs : ∀ {cs : List AV} {bs : List UInt8}, toBs cs = some bs → allU8 cs → cs = byteCells bs
  | [], bs, h, _ => by cases h; rfl
  | .int .u8 n :: l, bs, h, hn => by
    simp only [toBs, Option.map_eq_some_iff] at h
    obtain ⟨bs', h', rfl⟩ := h
    rw [cells_of_toBs h' hn.2]
    have := byteCells_append [] (k := n) hn.1
    simp only [byteCells, List.map_nil, List.nil_append, List.map_cons] at this ⊢
    rw [← (List.cons.inj this).1]

theorem byteCells_cell (bs : List UInt8) (i : Nat) : (AV.slG 1 (byteCells bs)).cell? i = (AV.slB bs).cell? i := by
  simp [AV.cell?, byteCells]

theorem Weak.objB {s : AState} {d : Nat} {w a : Bool} {cells : List AV} {bs : List UInt8} {e : TypeId} (hob : s.obj d = some ⟨w, a, .slG 1 cells, e⟩) (hb : toBs cells = some bs) (hin : allU8 cells) : Weak s (s.upd d (some ⟨w, a, .slB bs, e⟩)) := ⟨fun w0 A0 act wd hs => by
  obtain ⟨A, ρ, hs⟩ := hs
  obtain rfl := cells_of_toBs hb hin
  refine ⟨A, ρ, ⟨hs.defers, hs.len, hs.tmps, hs.below, hs.bound, hs.orig, hs.keep, hs.rbound, hs.inj, fun x => ?_⟩⟩
  rw [AState.obj_upd]
  by_cases hx : d = x ∧ d < s.objs.length
  · rw [if_pos hx]
    obtain ⟨rfl, _⟩ := hx
    have := hs.objs d
    rw [hob] at this
    obtain ⟨o, ho, hok⟩ := this
    have hr : (AV.slB bs).rowlen = (AV.slG 1 (byteCells bs)).rowlen := by rw [byteCells_rowlen]; rfl
    refine ⟨o, ho, ?_⟩
    cases o with
    | box b =>
      obtain ⟨h0, _⟩ := hok
      rw [byteCells_rowlen] at h0; cases h0
    | fix b n cap =>
      obtain ⟨k1, k2, k3, k4, k5, k6, k7, k8⟩ := hok
      exact ⟨k1, k2, hr.trans k3, k4, k5, k6, k7, fun i x hx => k8 i x (by rw [byteCells_cell]; exact hx)⟩
    | row u n =>
      obtain ⟨k1, ⟨vs, k2, k3⟩, k4⟩ := hok
      exact ⟨hr.trans k1, ⟨vs, k2, fun i x hx => k3 i x (by rw [byteCells_cell]; exact hx)⟩, k4⟩
  · rw [if_neg hx]; exact hs.objs x⟩

theorem SRun.weak {s s' : AState} {Q : AState → Prop} (h : Weak s s') (hh : SRun P ops i l s' Q) : SRun P ops i l s Q := ⟨fun hl w0 A0 a w QQ hQ hs => hh.run hl w0 A0 a w QQ hQ (h.run w0 A0 a w hs)⟩
theorem URun.weak (h : WeakT T T1) (hh : URun P ops i l T1 Q) : URun P ops i l T Q := ⟨fun hg => .weak (h.run hg).2 (hh.run (h.run hg).1)⟩

/-- Bytes that are appended. -/
theorem URun.appB {c : Call} {x y : Operand} {d n : Nat} {w a : Bool} {cells : List AV} {bs : List UInt8} {e : TypeId} (_ : o.op = .call c) (_ : c.callee = .builtin .append) (_ : c.args = #[x, y]) (_ : T.ev y = .own d n) (hob : T.obj d = some ⟨w, a, .slG 1 cells, e⟩) (hb : toBs cells = some bs) (hin : allU8 cells)
    (hs : T.updF d (some ⟨w, a, .slB bs, e⟩) some = some T1) (h : URun P ops i (o :: l) T1 Q) : URun P ops i (o :: l) T Q := by
  rw [TS.updF_eq] at hs
  cases hs
  refine .weak ⟨fun hg => ?_⟩ h
  have h1 := TS.upd_st hg d (some ⟨w, a, .slB bs, e⟩)
  refine ⟨h1.2, ?_⟩
  rw [h1.1]
  exact Weak.objB (by rw [TS.st_obj]; exact hob) hb hin

/-- A loop that has ended after so many rounds. -/
def roundsH (P : Program) (c : Code) (Q : Exit → AState → Prop) : Nat → AState → Prop
  | 0, _ => False
  | n + 1, s => Holds P c s (thenQ (roundsH P c Q n) Q)

theorem roundsH_wp {c : Code} {Q : Exit → AState → Prop} {w0 : World} {A0 : Nat → Prop} : ∀ {n : Nat} {s : AState} {a : Act} {w : World}, roundsH P c Q n s → Sim w0 A0 s a w → Code.rounds P c (fun e a w => ∃ s', Q e s' ∧ Sim w0 A0 s' a w) n a w
  | 0, _, _, _, h, _ => h.elim
  | n + 1, s, a, w, h, hs => by
    rw [rounds_succ]
    refine Go.wp_mono (Holds.run h w0 A0 a w hs) fun e a w hq => ?_
    obtain ⟨s', hq, hs'⟩ := hq
    cases e with
    | normal => exact roundsH_wp hq hs'
    | _ => exact ⟨s', hq, hs'⟩

def roundsT (P : Program) (c : Code) (Q : Exit → TS → Prop) : Nat → TS → Prop
  | 0, _ => False
  | n + 1, T => HoldsT P c T (thenT (roundsT P c Q n) Q)

theorem roundsT_H {c : Code} {Q : Exit → TS → Prop} : ∀ {n : Nat} {T : TS}, roundsT P c Q n T → T.good = true → roundsH P c (fun e s => ∃ T', T'.good = true ∧ s = T'.st ∧ Q e T') n T.st
  | 0, _, h, _ => h.elim
  | n + 1, T, h, hg => (HoldsT.run h hg).mono fun e s hq => by
    obtain ⟨T', hg', rfl, hq⟩ := hq
    cases e with
    | normal => exact roundsT_H hq hg'
    | _ => exact ⟨T', hg', rfl, hq⟩

theorem HoldsT.rounds (n : Nat) {c : Code} {Q : Exit → TS → Prop} (h : roundsT P c Q n T) : HoldsT P (.loop c) T Q := ⟨fun hg => ⟨fun _ _ _ _ hs => wp_loop_rounds n (roundsH_wp (roundsT_H h hg) hs)⟩⟩
theorem HoldsT.round {n : Nat} {c : Code} {Q : Exit → TS → Prop} (h : HoldsT P c T (thenT (roundsT P c Q n) Q)) : roundsT P c Q (n + 1) T := h

end
end Go.Proofs.Ytefbgdnobnemkaa.AM
