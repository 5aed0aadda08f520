/-
  One operation of a region, whatever it is: what it does, on what it depends, and that the model does it.
-/
import Derived.Test.YtefbgdnobnemkaaM20
namespace Go.Proofs.Ytefbgdnobnemkaa.AM
open Go Go.RowKit

mutual
/-- Nothing in it lies in memory. -/
def AV.flat : AV → Bool
  | .int _ _ => true
  | .bool _ => true
  | .str _ => true
  | .nilsl => true
  | .agg cs => flatL cs
  | .tup cs => flatL cs
  | _ => false
def flatL : List AV → Bool
  | [] => true
  | x :: xs => x.flat && flatL xs
end

theorem flatL_get : ∀ {xs : List AV}, flatL xs = true → ∀ {i : Nat} {x : AV}, xs[i]? = some x → x.flat = true
  | [], _, i, x, h => by simp at h
  | y :: ys, h, 0, x, hx => by simp at hx; subst hx; simp [flatL] at h; exact h.1
  | y :: ys, h, i + 1, x, hx => by simp [flatL] at h; exact flatL_get h.2 (by simpa using hx)

theorem R.flat {ρ ρ' : Rho} {A A' : Nat → Prop} {w w' : World} {v : Value} {x : AV} (h : R ρ A w v x) (hf : x.flat = true) : R ρ' A' w' v x := by
  induction h with
  | junk v => cases hf
  | int k n => exact .int k n
  | bool b => exact .bool b
  | str l => exact .str l
  | nilsl => exact .nilsl
  | nilptr => cases hf
  | row0 c h => cases c <;> first | (cases hf; done) | (simp [AV.rowlen] at h)
  | row b off n cap c vs hn => cases c <;> first | (cases hf; done) | (simp [AV.rowlen] at hn)
  | cptr => cases hf
  | agg cs xs hl h h1 ih => exact .agg cs xs hl (fun i x hx => ih i x hx (flatL_get (by simpa [AV.flat] using hf) hx)) h1
  | tup cs xs hl h ih => exact .tup cs xs hl (fun i x hx => ih i x hx (flatL_get (by simpa [AV.flat] using hf) hx))
  | fn => cases hf
  | ptr => cases hf
  | own => cases hf
  | eptr => cases hf

/-- Is the operation wanted? -/
def wantB (ops : Array Oper) (o : Oper) (s : AState) : Option Bool :=
  match o.guard with
  | none => some true
  | some (j, want) => match (ops[j]?).bind (·.dst) with
    | some d => match s.tmps.getD d .junk with
      | .bool b => some (b == want)
      | .tup [] => some false
      | _ => none
    | none => some false

structure Foot where
  men : List Nat
  wr : List Nat
  new : List Nat

def opMents (o : Oper) (ev : Operand → AV) : List Nat := o.op.operands.toList.flatMap fun x => (ev x).ments

def frzO (o : Obj) : Obj := { o with wr := false }

def frz (s : AState) (L : List Nat) : List (Nat × Option Obj) := L.map fun d => (d, (s.obj d).map frzO)

def callArgs (c : Call) (caps : List AV) (ev : Operand → AV) : List AV := c.args.toList.map ev ++ caps

/-- What one operation does to a state: the value, the objects that turn, what it reads, writes, makes. -/
inductive Does (P : Program) (eq2 : TypeId → Bool) (tab : Tab) (ops : Array Oper) (o : Oper) (s : AState) : AV → List (Nat × Option Obj) → Foot → Prop
  | skip (hw : wantB ops o s = some false) : Does P eq2 tab ops o s (.tup []) [] ⟨[], [], []⟩
  | val {pre : Prop} {v : AV} {u : List (Nat × Option Obj)} {n : List Nat} (hw : wantB ops o s = some true) (hx : aop eq2 tab o s.ev s.obj = .val pre v u n) (hp : pre) (hf : ∀ d ∈ n, s.fresh d) :
      Does P eq2 tab ops o s v u ⟨opMents o s.ev, u.map (·.1), n⟩
  | test {φ : Prop} {d : Decidable φ} (hw : wantB ops o s = some true) (hx : aop eq2 tab o s.ev s.obj = .test φ d) : Does P eq2 tab ops o s (.bool (decide φ)) [] ⟨opMents o s.ev, [], []⟩
  | call {c : Call} {fop : Operand} {g : FuncId} {caps : List AV} {r : AV} (hw : wantB ops o s = some true) (ho : o.op = .call c) (hc : c.callee = .value fop) (hg : s.ev fop = .fn g caps)
      (hcl : allP (closeP s.obj 5) (callArgs c caps s.ev)) (hm : mentsL ((callArgs c caps s.ev).map (closeV s.obj 5)) = []) (hr : Pure P g ((callArgs c caps s.ev).map (closeV s.obj 5)) r) :
      Does P eq2 tab ops o s r (if r.flat then [] else frz s ((callArgs c caps s.ev).flatMap (visits s.obj 5))) ⟨opMents o s.ev ++ (callArgs c caps s.ev).flatMap (visits s.obj 5), if r.flat then [] else (callArgs c caps s.ev).flatMap (visits s.obj 5), []⟩

section
variable {P : Program} {eq2 : TypeId → Bool} {tab : Tab} {ops : Array Oper} {w0 : World} {A0 A A' : Nat → Prop} {ρ : Rho} {s s' : AState} {a : Act} {w w' : World} {o : Oper}

theorem yielded_bool {tmps : Array Value} {d j : Nat} {b : Bool} (hd : (ops[j]?).bind (·.dst) = some d) (hv : tmps.getD d undef = .bool b) : yielded ops tmps j = some b := by
  unfold yielded
  rw [hd]
  rw [Array.getD_eq_getD_getElem?] at hv
  cases hh : tmps[d]? with
  | none => rw [hh] at hv; cases hv
  | some u => rw [hh] at hv; simp only [Option.getD_some] at hv; subst hv; simp [hh]

theorem yielded_tup {tmps : Array Value} {d j : Nat} {cs : Array Value} (hd : (ops[j]?).bind (·.dst) = some d) (hv : tmps.getD d undef = .tuple cs) : yielded ops tmps j = none := by
  unfold yielded
  rw [hd]
  rw [Array.getD_eq_getD_getElem?] at hv
  cases hh : tmps[d]? with
  | none => simp [hh]
  | some u => rw [hh] at hv; simp only [Option.getD_some] at hv; subst hv; simp [hh]

theorem want_real (h : St w0 A0 A ρ s a w) {b : Bool} (hw : wantB ops o s = some b) : Region.wanted o (yielded ops a.tmps) = b := by
  unfold wantB at hw
  unfold Region.wanted
  cases hg : o.guard with
  | none => rw [hg] at hw; simpa using hw
  | some p =>
    obtain ⟨j, want⟩ := p
    rw [hg] at hw
    simp only at hw ⊢
    cases hd : (ops[j]?).bind (·.dst) with
    | none =>
      rw [hd] at hw
      have : yielded ops a.tmps j = none := by unfold yielded; rw [hd]; rfl
      rw [this]
      simp only [Option.some.injEq] at hw
      rw [← hw]; cases want <;> rfl
    | some d =>
      rw [hd] at hw
      simp only at hw
      have hR := h.tmps d
      split at hw
      · rename_i b' hb
        rw [hb] at hR
        rw [yielded_bool hd hR.bool_inv]
        simp only [Option.some.injEq] at hw
        rw [← hw]
        cases b' <;> cases want <;> rfl
      · rename_i ht
        rw [ht] at hR
        obtain ⟨cs, hcs, _⟩ := hR.tup_inv
        rw [yielded_tup hd hcs]
        simp only [Option.some.injEq] at hw
        rw [← hw]
        cases want <;> rfl
      · cases hw

/-- More blocks that nobody writes. -/
theorem St.moreA (h : St w0 A0 A ρ s a w) (hA : ∀ b, A b → A' b) (hnew : ∀ b, A' b → A b ∨ (w0.heap.size ≤ b ∧ b < w.heap.size ∧ ∀ d o, ρ d = some o → o.blk? ≠ some b)) : St w0 A0 A' ρ s a w := by
  refine ⟨h.defers, h.len, fun i => (h.tmps i).mono hA (fun _ _ => rfl) (fun _ _ => rfl), h.below, fun b hb => ?_, fun b hb => ?_, fun b hb => hA b (h.keep b hb), h.rbound, h.inj, fun d => ?_⟩
  · rcases hnew b hb with h1 | h1
    · exact h.bound b h1
    · exact h1.2.1
  · rcases hnew b hb with h1 | h1
    · exact h.orig b h1
    · exact .inr h1.1
  · have := h.objs d
    split
    · trivial
    · rename_i ob hob
      simp only [hob] at this
      obtain ⟨o, ho, hok⟩ := this
      refine ⟨o, ho, hok.later hA (fun b hb hA' => ?_) (fun _ _ => rfl) (fun _ _ => rfl) (Nat.le_refl _) (fun y _ o' ho' => ⟨o', ho', RO.le_refl o'⟩)⟩
      rcases hnew b hA' with h1 | h1
      · exact h1
      · exact absurd hb (h1.2.2 d o ho)

theorem St.updNone (h : St w0 A0 A ρ s a w) (d : Nat) : St w0 A0 A ρ (s.upd d none) a w := by
  refine ⟨h.defers, h.len, h.tmps, h.below, h.bound, h.orig, h.keep, h.rbound, h.inj, fun x => ?_⟩
  rw [AState.obj_upd]
  by_cases hx : d = x ∧ d < s.objs.length
  · rw [if_pos hx]; trivial
  · rw [if_neg hx]; exact h.objs x

theorem frz_St {s0 : AState} : ∀ (L : List Nat) {A : Nat → Prop} {s : AState}, (∀ d, (s.obj d).map frzO = (s0.obj d).map frzO) → St w0 A0 A ρ s a w →
    ∃ A', St w0 A0 A' ρ ((frz s0 L).foldl (fun s p => s.upd p.1 p.2) s) a w ∧ (∀ b, A b → A' b) ∧ ∀ b, A' b ↔ A b ∨ ∃ d ∈ L, ∃ ro, (s0.obj d).isSome = true ∧ ρ d = some ro ∧ ro.blk? = some b
  | [], A, s, _, h => ⟨A, h, fun _ h => h, fun b => ⟨.inl, fun h => h.elim id (fun ⟨d, hd, _⟩ => by cases hd)⟩⟩
  | d :: L, A, s, hs, h => by
    simp only [frz, List.map_cons, List.foldl_cons]
    cases h0 : s0.obj d with
    | none =>
      have h1 := h.updNone d
      obtain ⟨A', h2, h3, h4⟩ := frz_St (s0 := s0) L (A := A) (s := s.upd d none) (fun x => by
        rw [AState.obj_upd]
        by_cases hx : d = x ∧ d < s.objs.length
        · rw [if_pos hx, ← hx.1, h0]
        · rw [if_neg hx]; exact hs x) h1
      refine ⟨A', h2, h3, fun b => ?_⟩
      rw [h4]
      constructor
      · rintro (h5 | ⟨y, hy, r⟩)
        · exact .inl h5
        · exact .inr ⟨y, List.mem_cons_of_mem _ hy, r⟩
      · rintro (h5 | ⟨y, hy, ro, r1, r2⟩)
        · exact .inl h5
        · rcases List.mem_cons.1 hy with rfl | hy
          · rw [h0] at r1; cases r1
          · exact .inr ⟨y, hy, ro, r1, r2⟩
    | some ob0 =>
      have hsd := hs d
      rw [h0] at hsd
      simp only [Option.map_some, Option.map_eq_some_iff] at hsd
      obtain ⟨ob, hob, hfz⟩ := hsd
      obtain ⟨ro, hro, _⟩ := h.live hob
      have h1 := h.freeze hro hob
      have e : ({ ob with wr := false } : Obj) = frzO ob0 := hfz
      rw [e] at h1
      obtain ⟨A', h2, h3, h4⟩ := frz_St (s0 := s0) L (s := s.upd d (some (frzO ob0))) (fun x => by
        rw [AState.obj_upd]
        by_cases hx : d = x ∧ d < s.objs.length
        · rw [if_pos hx, ← hx.1, h0]; rfl
        · rw [if_neg hx]; exact hs x) h1
      refine ⟨A', h2, fun b hb => h3 b (.inl hb), fun b => ?_⟩
      rw [h4]
      constructor
      · rintro ((h5 | h5) | ⟨y, hy, r⟩)
        · exact .inl h5
        · exact .inr ⟨d, List.mem_cons_self, ro, by rw [h0]; rfl, hro, h5⟩
        · exact .inr ⟨y, List.mem_cons_of_mem _ hy, r⟩
      · rintro (h5 | ⟨y, hy, ro', r1, r2, r3⟩)
        · exact .inl (.inl h5)
        · rcases List.mem_cons.1 hy with rfl | hy
          · rw [hro] at r2; cases r2; exact .inl (.inr r3)
          · exact .inr ⟨y, hy, ro', r1, r2, r3⟩

theorem exec_call {c : Call} {fop : Operand} {g : FuncId} {cs : Array Value} (ho : o.op = .call c) (hc : c.callee = .value fop) (hf : a.eval fop = .func (.func g) #[] cs) (he : ∃ fn, P.funcs[g]? = some fn ∧ (fn.name == "runtime.NumGoroutine") = false ∧ fn.body.isSome = true) :
    (execOp a.eval o).run P w = .ok (.enter g (c.args.map a.eval ++ cs)) w := by
  obtain ⟨fn, h1, h2, h3⟩ := he
  have h4 : fn.body ≠ none := by cases hb : fn.body <;> simp [hb] at h3 ⊢
  have h5 : fn.name ≠ "runtime.NumGoroutine" := by simpa using h2
  simp [execOp, ho, resolve, hc, hf, Deferred.ofValue, invoke, callFunc, h1, h4, h5]

/-- The model does it. -/
theorem Does.sound {v : AV} {u : List (Nat × Option Obj)} {f : Foot} {Q : Exit → Act → World → Prop} (hT : TabOk P tab) (heq : Eq2Ok P eq2) (hd : Does P eq2 tab ops o s v u f) (h : St w0 A0 A ρ s a w) :
    if Region.wanted o (yielded ops a.tmps) then o.wp P a w (Sim w0 A0 (s.app o.dst v u)) Q else Sim w0 A0 (s.app o.dst v u) (a.put o.dst undef) w := by
  cases hd with
  | skip hw =>
    rw [want_real h hw]
    exact ⟨A, ρ, h.put o.dst (.tup #[] [] rfl (by simp))⟩
  | val hw hx hp hf =>
    rw [want_real h hw]
    exact (op_val hT h hx hp hf).wp
  | test hw hx =>
    rw [want_real h hw]
    exact (op_test hT heq h hx).wp
  | @call c fop g caps _ hw ho hc hg hcl hm hr =>
    rw [want_real h hw, if_pos rfl]
    obtain ⟨cs, hcs, hcsl, hcsR⟩ := (hg ▸ h.ev fop : R ρ A w (a.eval fop) _).fn_inv
    obtain ⟨hrm, hen, hcalls⟩ := hr
    unfold Oper.wp
    rw [exec_call ho hc hcs hen]
    generalize hL : (callArgs c caps s.ev).flatMap (visits s.obj 5) = L
    let A1 : Nat → Prop := fun b => A b ∨ ∃ d ∈ L, ∃ ro, (s.obj d).isSome = true ∧ ρ d = some ro ∧ ro.blk? = some b
    have hA1 : ∀ b, A1 b → b < w.heap.size := fun b hb => by
      rcases hb with hb | ⟨d, _, ro, _, hro, hb⟩
      · exact h.bound b hb
      · exact h.rbound d ro b hro hb
    have hargsR : ∀ i x, (callArgs c caps s.ev)[i]? = some x → R ρ A w ((c.args.map a.eval ++ cs).getD i undef) x := by
      intro i x hx
      unfold callArgs at hx
      rw [List.getElem?_append, List.length_map, Array.length_toList] at hx
      rw [Array.getD_eq_getD_getElem?, Array.getElem?_append, Array.size_map]
      split at hx
      · rename_i hi
        rw [if_pos hi]
        rw [List.getElem?_map, Option.map_eq_some_iff] at hx
        obtain ⟨q, hq, rfl⟩ := hx
        have hq' : c.args[i]? = some q := by rw [← Array.getElem?_toList]; exact hq
        rw [Array.getElem?_map, hq']
        exact h.ev q
      · rename_i hi
        rw [if_neg hi, ← Array.getD_eq_getD_getElem?]
        exact hcsR _ x hx
    have hcall := hcalls A1 w (c.args.map a.eval ++ cs) hA1 (by simp [callArgs, hcsl]) (fun i x hx => by
      rw [List.getElem?_map, Option.map_eq_some_iff] at hx
      obtain ⟨y, hy, rfl⟩ := hx
      have h1 := close_R h (A' := A1) (fun b hb => .inl hb) 5 ((hargsR i y hy).mono (fun b hb => .inl hb) (fun _ _ => rfl) (fun _ _ => rfl)) (allP_get hcl hy)
        (fun d hd o b hs hro hb => .inr ⟨d, by rw [← hL]; exact List.mem_flatMap.2 ⟨y, List.mem_of_getElem? hy, hd⟩, o, hs, hro, hb⟩)
      refine h1.mono (fun _ h => h) (fun _ _ => rfl) (fun d hd => ?_)
      have : d ∈ mentsL ((callArgs c caps s.ev).map (closeV s.obj 5)) := mem_mentsL (by rw [List.getElem?_map, hy]; rfl) hd
      rw [hm] at this
      cases this)
    refine hcall.mono fun e w' ⟨vv, he, hR, hb⟩ => ?_
    subst he
    by_cases hfl : v.flat = true
    · rw [if_pos hfl]
      exact ⟨A, ρ, (h.grow hb).put o.dst (hR.flat hfl)⟩
    · rw [if_neg hfl]
      have h1 := h.grow hb
      obtain ⟨A2, h2, h3, h4⟩ := frz_St (s0 := s) L (fun d => rfl) h1
      have h5 : St w0 A0 (fun b => A2 b ∨ (w.heap.size ≤ b ∧ b < w'.heap.size)) ρ ((frz s L).foldl (fun s p => s.upd p.1 p.2) s) a w' := h2.moreA (fun b hb => .inl hb) (fun b hb' => by
        rcases hb' with hb' | hb'
        · exact .inl hb'
        · refine .inr ⟨Nat.le_trans h.below.size hb'.1, hb'.2, fun d ro hro e => ?_⟩
          have := h.rbound d ro b hro e
          omega)
      refine ⟨_, ρ, h5.put o.dst (hR.mono (fun b hb' => ?_) (fun _ _ => rfl) (fun d hd => by rw [hrm] at hd; cases hd))⟩
      rcases hb' with hb' | hb'
      · exact .inl ((h4 b).2 hb')
      · exact .inr hb'

end
end Go.Proofs.Ytefbgdnobnemkaa.AM
