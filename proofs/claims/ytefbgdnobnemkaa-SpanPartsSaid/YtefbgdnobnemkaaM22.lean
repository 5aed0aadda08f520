/-
  Regions: in the text's order; in any order.
-/
import Derived.Test.YtefbgdnobnemkaaM21
namespace Go.Proofs.Ytefbgdnobnemkaa.AM
open Go Go.RowKit

def disj (a b : List Nat) : Bool := a.all fun x => !b.contains x

theorem flatMap_eq {α β : Type} {f g : α → List β} : ∀ {l : List α}, (∀ x ∈ l, f x = g x) → l.flatMap f = l.flatMap g
  | [], _ => rfl
  | y :: ys, h => by rw [List.flatMap_cons, List.flatMap_cons, h y (by simp), flatMap_eq fun x hx => h x (by simp [hx])]

theorem disj_not {a b : List Nat} (h : disj a b = true) {x : Nat} (hx : x ∈ a) : x ∉ b := by
  have := List.all_eq_true.1 h x hx
  simpa using this

def indepF (f g : Foot) : Bool := disj f.wr (g.men ++ g.wr) && disj g.wr (f.men ++ f.wr)

theorem close_local {ob ob' : Nat → Option Obj} : ∀ (n : Nat) {x : AV}, (∀ d ∈ visits ob n x, ob' d = ob d) → closeV ob' n x = closeV ob n x ∧ closeP ob' n x = closeP ob n x ∧ visits ob' n x = visits ob n x
  | 0, x, _ => ⟨rfl, rfl, rfl⟩
  | n + 1, x, h => by
    have list : ∀ {xs : List AV}, (∀ d ∈ xs.flatMap (visits ob n), ob' d = ob d) → xs.map (closeV ob' n) = xs.map (closeV ob n) ∧ allP (closeP ob' n) xs = allP (closeP ob n) xs ∧ xs.flatMap (visits ob' n) = xs.flatMap (visits ob n) := by
      intro xs
      induction xs with
      | nil => intro _; exact ⟨rfl, rfl, rfl⟩
      | cons y ys ih =>
        intro h
        obtain ⟨h1, h2, h3⟩ := close_local n (x := y) (fun d hd => h d (by simp [hd]))
        obtain ⟨i1, i2, i3⟩ := ih (fun d hd => h d (by simp only [List.flatMap_cons, List.mem_append]; exact .inr hd))
        exact ⟨by simp [h1, i1], by simp only [allP, h2, i2], by simp only [List.flatMap_cons, h3, i3]⟩
    cases x with
    | own d m =>
      have hd : ob' d = ob d := h d (by simp only [visits]; split <;> simp)
      simp only [closeV, closeP, visits, hd] at h ⊢
      cases hob : ob d with
      | none => exact ⟨rfl, rfl, rfl⟩
      | some o =>
        rw [hob] at h
        obtain ⟨h1, h2, h3⟩ := close_local n (x := o.c) (fun d' hd' => h d' (by simp [hd']))
        simp only [h1, h2, h3]
        exact ⟨trivial, trivial, trivial⟩
    | ptr d off =>
      have hd : ob' d = ob d := h d (by simp only [visits]; split <;> simp)
      simp only [closeV, closeP, visits, hd] at h ⊢
      cases hob : ob d with
      | none => exact ⟨rfl, rfl, rfl⟩
      | some o =>
        rw [hob] at h
        obtain ⟨h1, h2, h3⟩ := close_local n (x := .cptr o.c off) (fun d' hd' => h d' (by simp [hd']))
        simp only [h1, h2, h3, isBox_local hd]
        exact ⟨trivial, trivial, trivial⟩
    | cptr c off =>
      simp only [closeV, closeP, visits] at h ⊢
      obtain ⟨h1, h2, h3⟩ := list h
      refine ⟨?_, h2, h3⟩
      cases c <;> simp only [AV.mapCells, AV.cellList] at h1 ⊢ <;> simp [h1]
    | agg cs => simp only [closeV, closeP, visits] at h ⊢; obtain ⟨h1, h2, h3⟩ := list h; exact ⟨by rw [h1], h2, h3⟩
    | tup cs => simp only [closeV, closeP, visits] at h ⊢; obtain ⟨h1, h2, h3⟩ := list h; exact ⟨by rw [h1], h2, h3⟩
    | fn f cs => simp only [closeV, closeP, visits] at h ⊢; obtain ⟨h1, h2, h3⟩ := list h; exact ⟨by rw [h1], h2, h3⟩
    | slG sz cs => simp only [closeV, closeP, visits] at h ⊢; obtain ⟨h1, h2, h3⟩ := list h; exact ⟨by rw [h1], h2, h3⟩
    | _ => exact ⟨rfl, rfl, rfl⟩

section
variable {P : Program} {eq2 : TypeId → Bool} {tab : Tab} {ops : Array Oper} {w0 : World} {A0 A A' : Nat → Prop} {ρ : Rho} {s s' : AState} {a : Act} {w w' : World} {o : Oper}

theorem ev_of_looks (h : ∀ t ∈ o.looksAt ops, s'.tmps.getD t .junk = s.tmps.getD t .junk) {x : Operand} (hx : x ∈ o.op.operands) : s'.ev x = s.ev x := by
  cases x with
  | tmp t =>
    refine h t ?_
    simp only [Oper.looksAt, List.mem_append, List.mem_filterMap]
    exact .inl ⟨.tmp t, by simpa using hx, rfl⟩
  | const v => rfl
  | global g => rfl
  | func f => rfl

theorem want_of_looks (h : ∀ t ∈ o.looksAt ops, s'.tmps.getD t .junk = s.tmps.getD t .junk) : wantB ops o s' = wantB ops o s := by
  unfold wantB
  cases hg : o.guard with
  | none => rfl
  | some p =>
    obtain ⟨j, want⟩ := p
    simp only
    cases hd : (ops[j]?).bind (·.dst) with
    | none => rfl
    | some d =>
      simp only
      rw [h d (by simp only [Oper.looksAt, hg, hd, List.mem_append]; exact .inr (by simp))]

/-- It depends on the slots that it looks at, and on what it reads. -/
theorem Does.local {v : AV} {u : List (Nat × Option Obj)} {f : Foot} (hd : Does P eq2 tab ops o s v u f) (h1 : ∀ t ∈ o.looksAt ops, s'.tmps.getD t .junk = s.tmps.getD t .junk) (h2 : ∀ d ∈ f.men, s'.obj d = s.obj d) (h3 : ∀ d ∈ f.new, s'.fresh d) :
    Does P eq2 tab ops o s' v u f := by
  have hev : ∀ x ∈ o.op.operands, s'.ev x = s.ev x := fun x hx => ev_of_looks h1 hx
  have hm : opMents o s'.ev = opMents o s.ev := by
    unfold opMents
    have : ∀ x ∈ o.op.operands.toList, (s'.ev x).ments = (s.ev x).ments := fun x hx => by rw [hev x (by simpa using hx)]
    exact flatMap_eq this
  have hmem : ∀ x ∈ o.op.operands, ∀ d ∈ (s.ev x).ments, d ∈ opMents o s.ev := fun x hx d hd' => List.mem_flatMap.2 ⟨x, by simpa using hx, hd'⟩
  cases hd with
  | skip hw => exact .skip (by rw [want_of_looks h1]; exact hw)
  | val hw hx hp hf =>
    rw [← hm]
    exact .val (by rw [want_of_looks h1]; exact hw) (by rw [aop_local hev (fun x hx d hd' => h2 d (hmem x hx d hd'))]; exact hx) hp h3
  | test hw hx =>
    rw [← hm]
    exact .test (by rw [want_of_looks h1]; exact hw) (by rw [aop_local hev (fun x hx d hd' => h2 d (hmem x hx d hd'))]; exact hx)
  | @call c fop g caps _ hw ho hc hg hcl hmm hr =>
    have hops : o.op.operands = #[fop] ++ c.args := by rw [ho]; simp [Op.operands, Call.operands, hc]
    have hg' : s'.ev fop = .fn g caps := by rw [hev fop (by rw [hops]; simp)]; exact hg
    have hargs : callArgs c caps s'.ev = callArgs c caps s.ev := by
      unfold callArgs
      congr 1
      exact List.map_congr_left fun x hx => hev x (by rw [hops]; simp at hx ⊢; exact .inr hx)
    have hvis : ∀ d ∈ (callArgs c caps s.ev).flatMap (visits s.obj 5), s'.obj d = s.obj d := fun d hd' => h2 d (by simp only [List.mem_append]; exact .inr hd')
    have each : ∀ x ∈ callArgs c caps s.ev, closeV s'.obj 5 x = closeV s.obj 5 x ∧ closeP s'.obj 5 x = closeP s.obj 5 x ∧ visits s'.obj 5 x = visits s.obj 5 x := fun x hx => close_local 5 fun d hd' => hvis d (List.mem_flatMap.2 ⟨x, hx, hd'⟩)
    have e1 : (callArgs c caps s.ev).map (closeV s'.obj 5) = (callArgs c caps s.ev).map (closeV s.obj 5) := List.map_congr_left fun x hx => (each x hx).1
    have e2 : (callArgs c caps s.ev).flatMap (visits s'.obj 5) = (callArgs c caps s.ev).flatMap (visits s.obj 5) := flatMap_eq fun x hx => (each x hx).2.2
    have e3 : allP (closeP s'.obj 5) (callArgs c caps s.ev) := by
      have : ∀ (l : List AV), (∀ x ∈ l, closeP s'.obj 5 x = closeP s.obj 5 x) → allP (closeP s.obj 5) l → allP (closeP s'.obj 5) l := by
        intro l
        induction l with
        | nil => exact fun _ h => h
        | cons y ys ih => exact fun hh h => ⟨by rw [hh y (by simp)]; exact h.1, ih (fun x hx => hh x (by simp [hx])) h.2⟩
      exact this _ (fun x hx => (each x hx).2.1) hcl
    have e4 : frz s' ((callArgs c caps s.ev).flatMap (visits s.obj 5)) = frz s ((callArgs c caps s.ev).flatMap (visits s.obj 5)) := List.map_congr_left fun d hd' => by rw [hvis d hd']
    have := Does.call (P := P) (eq2 := eq2) (tab := tab) (ops := ops) (o := o) (s := s') (r := v) (by rw [want_of_looks h1]; exact hw) ho hc hg' (by rw [hargs]; exact e3) (by rw [hargs, e1]; exact hmm) (by rw [hargs, e1]; exact hr)
    rw [hargs, e2, e4, hm] at this
    exact this

theorem fold_obj : ∀ (u : List (Nat × Option Obj)) (s : AState) {x : Nat} {ob : Obj}, (u.foldl (fun s p => s.upd p.1 p.2) s).obj x = some ob → (∃ p ∈ u, p.2 = some ob) ∨ s.obj x = some ob
  | [], s, x, ob, h => .inr h
  | p :: u, s, x, ob, h => by
    rcases fold_obj u _ h with ⟨q, hq, hq2⟩ | h1
    · exact .inl ⟨q, List.mem_cons_of_mem _ hq, hq2⟩
    · rw [AState.obj_upd] at h1
      split at h1
      · exact .inl ⟨p, List.mem_cons_self, h1⟩
      · exact .inr h1

theorem fold_tmps : ∀ (u : List (Nat × Option Obj)) (s : AState), (u.foldl (fun s p => s.upd p.1 p.2) s).tmps = s.tmps
  | [], _ => rfl
  | p :: u, s => fold_tmps u (s.upd p.1 p.2)

theorem fold_obj_other : ∀ (u : List (Nat × Option Obj)) (s : AState) {x : Nat}, x ∉ u.map (·.1) → (u.foldl (fun s p => s.upd p.1 p.2) s).obj x = s.obj x
  | [], _, _, _ => rfl
  | p :: u, s, x, h => by
    simp only [List.map_cons, List.mem_cons, not_or] at h
    rw [List.foldl_cons, fold_obj_other u _ h.2, AState.obj_upd, if_neg (fun e => h.1 e.1.symm)]

theorem app_obj {d : Option Nat} {v : AV} {u : List (Nat × Option Obj)} {x : Nat} : (s.app d v u).obj x = (u.foldl (fun s p => s.upd p.1 p.2) s).obj x := by
  unfold AState.app
  cases d <;> rfl

theorem app_tmps {d : Option Nat} {v : AV} {u : List (Nat × Option Obj)} : (s.app d v u).tmps = match d with | some d => s.tmps.set d v | none => s.tmps := by
  unfold AState.app
  cases d <;> simp [AState.put, fold_tmps]

/-- What is in no slot and in no object, and is not made, comes into none. -/
theorem Does.fresh (hz : ∀ t ti d, tab t = some ti → d ∉ mentsL ti.zero) {v : AV} {u : List (Nat × Option Obj)} {f : Foot} (hd : Does P eq2 tab ops o s v u f) {x : Nat} (hx : s.fresh x) (hn : x ∉ f.new) : (s.app o.dst v u).fresh x := by
  have key : x ∉ v.ments ∧ ∀ p ∈ u, ∀ ob, p.2 = some ob → p.1 ≠ x → x ∉ ob.c.ments := by
    cases hd with
    | skip hw => exact ⟨by simp [AV.ments, mentsL], fun p hp => by cases hp⟩
    | @val pre v u n hw hx' hp hf =>
      have := aop_no (eq2 := eq2) (tab := tab) (o := o) (ev := s.ev) (d := x) (ob := s.obj) (fun d' o hne ho => hx.2 d' o hne ho) (fun t ti ht => hz t ti x ht) (fun y => fresh_ev hx y)
      rw [hx'] at this
      obtain ⟨h1, h2⟩ := this hn
      exact ⟨h1, fun p hp ob ho _ => (h2 p hp).2 ob ho⟩
    | test hw hx' => exact ⟨by simp [AV.ments], fun p hp => by cases hp⟩
    | call hw ho hc hg hcl hm hr =>
      refine ⟨by rw [hr.1]; simp, fun p hp ob hob hne => ?_⟩
      split at hp
      · cases hp
      · simp only [frz, List.mem_map] at hp
        obtain ⟨d, _, rfl⟩ := hp
        simp only [Option.map_eq_some_iff] at hob
        obtain ⟨ob0, h0, rfl⟩ := hob
        exact hx.2 d ob0 hne h0
  refine ⟨fun i => ?_, fun d' ob hne hob => ?_⟩
  · rw [app_tmps]
    cases hdst : o.dst with
    | none => exact hx.1 i
    | some d =>
      simp only
      rw [getD_set]
      split
      · exact key.1
      · exact hx.1 i
  · rw [app_obj] at hob
    -- an update of this very object, or none
    have : ∀ (u : List (Nat × Option Obj)) (s : AState), (∀ p ∈ u, ∀ ob, p.2 = some ob → p.1 ≠ x → x ∉ ob.c.ments) → (∀ ob, s.obj d' = some ob → x ∉ ob.c.ments) → (u.foldl (fun s p => s.upd p.1 p.2) s).obj d' = some ob → x ∉ ob.c.ments := by
      intro u
      induction u with
      | nil => intro s _ h2 h3; exact h2 ob h3
      | cons p u ih =>
        intro s h1 h2 h3
        refine ih (s.upd p.1 p.2) (fun q hq => h1 q (List.mem_cons_of_mem _ hq)) (fun ob' hob' => ?_) h3
        rw [AState.obj_upd] at hob'
        split at hob'
        · rename_i he
          exact h1 p List.mem_cons_self ob' hob' (by rw [he.1]; exact hne)
        · exact h2 ob' hob'
    exact this u s key.2 (fun ob hob => hx.2 d' ob hne hob) hob

end
end Go.Proofs.Ytefbgdnobnemkaa.AM
