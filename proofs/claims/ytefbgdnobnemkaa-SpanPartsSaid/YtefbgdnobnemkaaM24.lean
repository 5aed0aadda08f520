/-
  Code, on abstract states.
-/
import Derived.Test.YtefbgdnobnemkaaM23
namespace Go.Proofs.Ytefbgdnobnemkaa.AM
open Go Go.RowKit

/-- From a state that is told so the code comes to an exit and a state that are told so. -/
structure Holds (P : Program) (c : Code) (s : AState) (Q : Exit → AState → Prop) : Prop where
  run : ∀ w0 A0 a w, Sim w0 A0 s a w → c.wp P (fun e a w => ∃ s', Q e s' ∧ Sim w0 A0 s' a w) a w

def thenQ (N : AState → Prop) (Q : Exit → AState → Prop) : Exit → AState → Prop
  | .normal, s => N s
  | e, s => Q e s

def blockQ (id : Nat) (Q : Exit → AState → Prop) : Exit → AState → Prop
  | .exit id', s => match Nat.beq id' id with
    | true => Q .normal s
    | false => Q (.exit id') s
  | e, s => Q e s

section
variable {P : Program} {eq2 : TypeId → Bool} {tab : Tab} {s s' : AState} {Q : Exit → AState → Prop}

theorem Holds.skip (h : Q .normal s) : Holds P .skip s Q := ⟨fun _ _ _ _ hs => wp_skip ⟨s, h, hs⟩⟩
theorem Holds.ret (h : Q .ret s) : Holds P .ret s Q := ⟨fun _ _ _ _ hs => wp_ret ⟨s, h, hs⟩⟩
theorem Holds.exit {id : Nat} (h : Q (.exit id) s) : Holds P (.exit id) s Q := ⟨fun _ _ _ _ hs => wp_exit ⟨s, h, hs⟩⟩

theorem Holds.seq {x y : Code} (h : Holds P x s (thenQ (fun s => Holds P y s Q) Q)) : Holds P (.seq x y) s Q := ⟨fun w0 A0 a w hs => by
  refine wp_seq (Go.wp_mono (h.run w0 A0 a w hs) fun e a w hq => ?_)
  obtain ⟨s', hq, hs'⟩ := hq
  cases e with
  | normal => exact hq.run w0 A0 a w hs'
  | _ => exact ⟨s', hq, hs'⟩⟩

theorem Holds.block {id : Nat} {c : Code} (h : Holds P c s (blockQ id Q)) : Holds P (.block id c) s Q := ⟨fun w0 A0 a w hs => by
  refine wp_block (Go.wp_mono (h.run w0 A0 a w hs) fun e a w hq => ?_)
  obtain ⟨s', hq, hs'⟩ := hq
  cases e with
  | exit id' =>
    simp only [Exit.inBlock]
    by_cases he : id' = id
    · subst he
      simp only [blockQ, Nat.beq_refl] at hq
      rw [if_pos rfl]; exact ⟨s', hq, hs'⟩
    · have : Nat.beq id' id = false := by
        cases hb : Nat.beq id' id with
        | false => rfl
        | true => exact absurd (Nat.eq_of_beq_eq_true hb) he
      simp only [blockQ, this] at hq
      rw [if_neg he]; exact ⟨s', hq, hs'⟩
  | _ => exact ⟨s', hq, hs'⟩⟩

theorem Holds.cond {c : Operand} {x y : Code} {b : Bool} (hc : s.ev c = .bool b) (ht : b = true → Holds P x s Q) (hf : b = false → Holds P y s Q) : Holds P (.cond c x y) s Q := ⟨fun w0 A0 a w hs => by
  obtain ⟨A, ρ, hs'⟩ := id hs
  have : a.eval c = .bool b := (hc ▸ hs'.ev c : R ρ A w (a.eval c) (.bool b)).bool_inv
  exact wp_cond_split this (fun h => (ht h).run w0 A0 a w hs) (fun h => (hf h).run w0 A0 a w hs)⟩
theorem Holds.cond_true {c : Operand} {x y : Code} (hc : s.ev c = .bool true) (h : Holds P x s Q) : Holds P (.cond c x y) s Q := .cond hc (fun _ => h) (fun h => by cases h)
theorem Holds.cond_false {c : Operand} {x y : Code} (hc : s.ev c = .bool false) (h : Holds P y s Q) : Holds P (.cond c x y) s Q := .cond hc (fun h => by cases h) (fun _ => h)

theorem Holds.conv {c : Code} (h : s = s') (hh : Holds P c s' Q) : Holds P c s Q := h ▸ hh

/-- Less is told of a state. -/
structure Weak (s s' : AState) : Prop where
  run : ∀ w0 A0 a w, Sim w0 A0 s a w → Sim w0 A0 s' a w

theorem Weak.refl (s : AState) : Weak s s := ⟨fun _ _ _ _ h => h⟩

theorem Holds.weak {c : Code} (h : Weak s s') (hh : Holds P c s' Q) : Holds P c s Q := ⟨fun w0 A0 a w hs => hh.run w0 A0 a w (h.run w0 A0 a w hs)⟩

theorem exists_least {J : Nat → Prop} : ∀ n, J n → ∃ m, J m ∧ ∀ k, J k → m ≤ k := by
  intro n
  induction n using Nat.strongRecOn with
  | _ n ih =>
    intro hn
    by_cases h : ∃ k, k < n ∧ J k
    · obtain ⟨k, hk, hJ⟩ := h
      exact ih k hk hJ
    · exact ⟨n, hn, fun k hk => Nat.le_of_not_lt fun hlt => h ⟨k, hlt, hk⟩⟩

open Classical in
theorem Holds.loop {c : Code} (I : Nat → AState → Prop)
    (h : ∀ n s, I n s → Holds P c s (thenQ (fun s' => ∃ m s'', m < n ∧ Weak s' s'' ∧ I m s'') Q)) {n : Nat} (hn : I n s) : Holds P (.loop c) s Q := ⟨fun w0 A0 a w hs => by
  let J : Act → World → Nat → Prop := fun a w n => ∃ s, I n s ∧ Sim w0 A0 s a w
  have hl : ∀ a w, (∃ n, J a w n) → ∃ m, J a w m ∧ ∀ k, J a w k → m ≤ k := fun a w ⟨n, hn⟩ => exists_least n hn
  let μ : Act → World → Nat := fun a w => if h : ∃ n, J a w n then Classical.choose (hl a w h) else 0
  have hμ : ∀ a w (h : ∃ n, J a w n), J a w (μ a w) ∧ ∀ k, J a w k → μ a w ≤ k := fun a w h => by
    have : μ a w = Classical.choose (hl a w h) := dif_pos h
    rw [this]
    exact Classical.choose_spec (hl a w h)
  refine wp_loop (fun a w => ∃ n, J a w n) μ ⟨n, s, hn, hs⟩ fun a w hI => ?_
  obtain ⟨⟨s, h1, h2⟩, _⟩ := hμ a w hI
  refine Go.wp_mono ((h _ s h1).run w0 A0 a w h2) fun e a' w' hq => ?_
  obtain ⟨s', hq, hs'⟩ := hq
  cases e with
  | normal =>
    obtain ⟨m, s'', hm, hw, hi⟩ := hq
    have hJ : J a' w' m := ⟨s'', hi, hw.run w0 A0 a' w' hs'⟩
    exact ⟨⟨m, hJ⟩, Nat.lt_of_le_of_lt ((hμ a' w' ⟨m, hJ⟩).2 m hJ) hm⟩
  | _ => exact ⟨s', hq, hs'⟩⟩

/-- The rest of a region's operations, in the text's order. -/
structure ARun (P : Program) (eq2 : TypeId → Bool) (tab : Tab) (ops : Array Oper) (i : Nat) (l : List Oper) (s : AState) (K : List (Nat × Foot) → AState → Prop) : Prop where
  run : (∀ j, l[j]? = ops[i + j]?) → ∃ tr s', Run P eq2 tab ops s tr s' ∧ tr.map (·.1) = List.range' i l.length ∧ K tr s'

variable {ops : Array Oper} {i : Nat} {l : List Oper} {K : List (Nat × Foot) → AState → Prop} {o : Oper} {s1 : AState}

theorem ARun.nil (h : K [] s) : ARun P eq2 tab ops i [] s K := ⟨fun _ => ⟨[], s, .nil, rfl, h⟩⟩

theorem ARun.step {v : AV} {u : List (Nat × Option Obj)} {f : Foot} (hd : Does P eq2 tab ops o s v u f) (hs : s.app o.dst v u = s1)
    (h : ARun P eq2 tab ops (i + 1) l s1 (fun tr s' => K ((i, f) :: tr) s')) : ARun P eq2 tab ops i (o :: l) s K := ⟨fun hl => by
  obtain ⟨tr, s', h1, h2, h3⟩ := h.run (fun j => by have := hl (j + 1); simpa [Nat.add_assoc, Nat.add_comm 1 j] using this)
  refine ⟨(i, f) :: tr, s', .cons (by simpa using (hl 0).symm) ⟨v, u, hd, hs.symm⟩ h1, ?_, h3⟩
  simp [h2, List.range'_succ]⟩

theorem ARun.skip (hw : wantB ops o s = some false) (hs : s.app o.dst (.tup []) [] = s1) (h : ARun P eq2 tab ops (i + 1) l s1 (fun tr s' => K ((i, ⟨[], [], []⟩) :: tr) s')) : ARun P eq2 tab ops i (o :: l) s K :=
  .step (.skip hw) hs h

theorem ARun.val {pre : Prop} {v : AV} {u : List (Nat × Option Obj)} {n : List Nat} (hw : wantB ops o s = some true) (hx : aop eq2 tab o s.ev s.obj = .val pre v u n) (hf : n.all (freshB s) = true) (hs : s.app o.dst v u = s1) (hp : pre)
    (h : ARun P eq2 tab ops (i + 1) l s1 (fun tr s' => K ((i, ⟨opMents o s.ev, u.map (·.1), n⟩) :: tr) s')) : ARun P eq2 tab ops i (o :: l) s K :=
  .step (.val hw hx hp (fun d hd => fresh_of (List.all_eq_true.1 hf d hd))) hs h

theorem ARun.test {φ : Prop} {d : Decidable φ} (hw : wantB ops o s = some true) (hx : aop eq2 tab o s.ev s.obj = .test φ d) (hs : s.app o.dst (.bool (decide φ)) [] = s1)
    (h : ARun P eq2 tab ops (i + 1) l s1 (fun tr s' => K ((i, ⟨opMents o s.ev, [], []⟩) :: tr) s')) : ARun P eq2 tab ops i (o :: l) s K :=
  .step (.test hw hx) hs h

theorem ARun.split {φ : Prop} {d : Decidable φ} {s2 : AState} (hw : wantB ops o s = some true) (hx : aop eq2 tab o s.ev s.obj = .test φ d) (hs : s.app o.dst (.bool true) [] = s1) (hs2 : s.app o.dst (.bool false) [] = s2)
    (h : φ → ARun P eq2 tab ops (i + 1) l s1 (fun tr s' => K ((i, ⟨opMents o s.ev, [], []⟩) :: tr) s')) (h2 : ¬ φ → ARun P eq2 tab ops (i + 1) l s2 (fun tr s' => K ((i, ⟨opMents o s.ev, [], []⟩) :: tr) s')) : ARun P eq2 tab ops i (o :: l) s K := by
  by_cases hφ : φ
  · exact .test hw hx (by rw [decide_eq_true hφ]; exact hs) (h hφ)
  · exact .test hw hx (by rw [decide_eq_false hφ]; exact hs2) (h2 hφ)

theorem ARun.call {c : Call} {fop : Operand} {g : FuncId} {caps : List AV} {r : AV} {args : List AV} (hw : wantB ops o s = some true) (ho : o.op = .call c) (hc : c.callee = .value fop) (hg : s.ev fop = .fn g caps)
    (ha : (callArgs c caps s.ev).map (closeV s.obj 5) = args) (hm : mentsL args = []) (hr : Pure P g args r) (hcl : allP (closeP s.obj 5) (callArgs c caps s.ev))
    (hs : s.app o.dst r (match r.flat with | true => [] | false => frz s ((callArgs c caps s.ev).flatMap (visits s.obj 5))) = s1)
    (h : ARun P eq2 tab ops (i + 1) l s1 (fun tr s' => K ((i, ⟨opMents o s.ev ++ (callArgs c caps s.ev).flatMap (visits s.obj 5), match r.flat with | true => [] | false => (callArgs c caps s.ev).flatMap (visits s.obj 5), []⟩) :: tr) s')) : ARun P eq2 tab ops i (o :: l) s K := by
  subst ha
  have := Does.call (P := P) (eq2 := eq2) (tab := tab) (ops := ops) (o := o) (s := s) (r := r) hw ho hc hg hcl hm hr
  refine ARun.step (s1 := s1) this ?_ ?_
  · rw [← hs]
    cases r.flat <;> rfl
  · have e : (if r.flat = true then [] else (callArgs c caps s.ev).flatMap (visits s.obj 5)) = (match r.flat with | true => [] | false => (callArgs c caps s.ev).flatMap (visits s.obj 5)) := by cases r.flat <;> rfl
    rw [e]; exact h

/-- The checks of an order that is drawn. -/
def okTr (ops : Array Oper) (s : AState) (tr : List (Nat × Foot)) : Bool := backB ops && pairB (apartB ops) tr && tr.all fun p => p.2.new.all (freshB s)
where pairB (r : Nat × Foot → Nat × Foot → Bool) : List (Nat × Foot) → Bool
  | [] => true
  | p :: l => l.all (r p) && pairB r l

theorem pairB_spec {r : Nat × Foot → Nat × Foot → Bool} : ∀ {l : List (Nat × Foot)}, okTr.pairB r l = true → l.Pairwise fun p q => r p q = true
  | [], _ => .nil
  | p :: l, h => by
    simp only [okTr.pairB, Bool.and_eq_true, List.all_eq_true] at h
    exact .cons h.1 (pairB_spec h.2)

/-- A type table's facts, once for a program. -/
structure Tabs (P : Program) (eq2 : TypeId → Bool) (tab : Tab) : Prop where
  tab : TabOk P tab
  eq2 : Eq2Ok P eq2
  draw : P.follows .mixedOrders = true

theorem Tabs.zero (h : Tabs P eq2 tab) : ∀ t ti x, tab t = some ti → x ∉ mentsL ti.zero := by
  intro t ti x ht hx
  have := (h.tab t ti ht).zm
  have key : ∀ l : List AV, (∀ (i : Nat) (y : AV), l[i]? = some y → y.ments = []) → x ∉ mentsL l := by
    intro l
    induction l with
    | nil => intro _ h; cases h
    | cons y l ih =>
      intro hh h
      simp only [mentsL, List.mem_append] at h
      rcases h with h | h
      · rw [hh 0 y (by simp)] at h; cases h
      · exact ih (fun i y hy => hh (i + 1) y (by simpa using hy)) h
  exact key _ this hx

theorem run_wpOps (hT : Tabs P eq2 tab) {w0 : World} {A0 : Nat → Prop} {Q : Exit → Act → World → Prop} : ∀ {tr : List (Nat × Foot)} {s : AState}, Run P eq2 tab ops s tr s' → (∀ a w, Sim w0 A0 s' a w → Q .normal a w) → ∀ {a : Act} {w : World}, Sim w0 A0 s a w → wpOps P ops Q (tr.map (·.1)) a w
  | _, _, .nil, hQ, a, w, hs => hQ a w hs
  | _, _, .cons ho h hr, hQ, a, w, hs => by
    rw [List.map_cons, wpOps_cons]
    exact Step.wpOp hT.tab hT.eq2 ho h hs fun a w hs' => run_wpOps hT hr hQ hs'

theorem Holds.region (hT : Tabs P eq2 tab) {id : Nat} (h : ARun P eq2 tab ops 0 ops.toList s (fun _ s' => Q .normal s')) : Holds P (.region id ops false) s Q := ⟨fun w0 A0 a w hs => by
  obtain ⟨tr, s', h1, h2, h3⟩ := h.run (by simp)
  refine wp_region ?_
  have := run_wpOps hT (Q := fun e a w => ∃ s', Q e s' ∧ Sim w0 A0 s' a w) h1 (fun a w hs => ⟨s', h3, hs⟩) hs
  rw [h2] at this
  rw [List.range_eq_range']
  simpa using this⟩

theorem Holds.drawn (hT : Tabs P eq2 tab) {id : Nat} (h : ARun P eq2 tab ops 0 ops.toList s (fun tr s' => okTr ops s tr = true ∧ Q .normal s')) : Holds P (.region id ops true) s Q := ⟨fun w0 A0 a w hs => by
  obtain ⟨tr, s', h1, h2, h3, h4⟩ := h.run (by simp)
  simp only [okTr, Bool.and_eq_true, List.all_eq_true] at h3
  obtain ⟨⟨h5, h6⟩, h7⟩ := h3
  have hlen : tr.length = ops.size := by
    have := congrArg List.length h2
    simpa using this
  refine wp_region_any hT.draw (any_order (w0 := w0) (A0 := A0) (s' := s') hT.tab hT.eq2 hT.zero h5 (Q := fun e a w => ∃ s', Q e s' ∧ Sim w0 A0 s' a w) (fun a w hs => ⟨s', h4, hs⟩) ops.size tr _ s a _ (by omega) (by simp) (fun i => ?_) ?_ (pairB_spec h6) (fun p hp d hd => fresh_of (h7 p hp d hd)) h1 ?_)
  · rw [h2]
    simp only [Array.length_toList, List.mem_range'_1, Nat.zero_add, Nat.zero_le, true_and]
    rcases Nat.lt_or_ge i ops.size with hi | hi
    · simp [hi]
    · simp [Nat.not_lt.2 hi, hi]
  · have : (tr.map (·.1)).Pairwise (· < ·) := by rw [h2]; exact List.pairwise_lt_range'
    exact List.pairwise_map.1 this
  · obtain ⟨A, ρ, hs⟩ := hs
    exact ⟨A, ρ, hs.grow (Below.drew (Below.refl _ _))⟩⟩

end
end Go.Proofs.Ytefbgdnobnemkaa.AM
