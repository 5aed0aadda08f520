/-
  A region's operations, in whatever order the model draws.
-/
import Derived.Test.YtefbgdnobnemkaaM22
namespace Go.Proofs.Ytefbgdnobnemkaa.AM
open Go Go.RowKit

section
variable {P : Program} {eq2 : TypeId → Bool} {tab : Tab} {ops : Array Oper} {w0 : World} {A0 : Nat → Prop} {s s' : AState} {a : Act} {w : World}

def Step (P : Program) (eq2 : TypeId → Bool) (tab : Tab) (ops : Array Oper) (o : Oper) (s : AState) (f : Foot) (s' : AState) : Prop :=
  ∃ v u, Does P eq2 tab ops o s v u f ∧ s' = s.app o.dst v u

theorem Does.wr {o : Oper} {v : AV} {u : List (Nat × Option Obj)} {f : Foot} (hd : Does P eq2 tab ops o s v u f) : ∀ d ∈ u.map (·.1), d ∈ f.wr := by
  cases hd with
  | skip => simp
  | val => exact fun d h => h
  | test => simp
  | @call c fop g caps r hw ho hc hg hcl hm hr =>
    intro d h
    by_cases hf : v.flat = true
    · simp [hf] at h
    · rw [if_neg hf] at h
      show d ∈ (if v.flat = true then [] else _)
      rw [if_neg hf]
      simp only [frz, List.map_map] at h
      obtain ⟨x, hx, rfl⟩ := List.mem_map.1 h
      exact hx

theorem foldupd_objs : ∀ (u : List (Nat × Option Obj)) (s : AState) (d : Nat) (o : Option Obj), d ∉ u.map (·.1) →
    (u.foldl (fun s p => s.upd p.1 p.2) (s.upd d o)).objs = ((u.foldl (fun s p => s.upd p.1 p.2) s).upd d o).objs
  | [], _, _, _, _ => rfl
  | p :: u, s, d, o, h => by
    simp only [List.map_cons, List.mem_cons, not_or] at h
    rw [List.foldl_cons, List.foldl_cons]
    have : (s.upd d o).upd p.1 p.2 = (s.upd p.1 p.2).upd d o := by simp [AState.upd, List.set_comm _ _ h.1]
    rw [this]
    exact foldupd_objs u _ d o h.2

theorem foldupd_comm : ∀ (u u' : List (Nat × Option Obj)) (s : AState), (∀ d ∈ u.map (·.1), d ∉ u'.map (·.1)) →
    (u'.foldl (fun s p => s.upd p.1 p.2) (u.foldl (fun s p => s.upd p.1 p.2) s)).objs = (u.foldl (fun s p => s.upd p.1 p.2) (u'.foldl (fun s p => s.upd p.1 p.2) s)).objs
  | [], _, _, _ => rfl
  | p :: u, u', s, h => by
    rw [List.foldl_cons, List.foldl_cons, foldupd_comm u u' _ fun d hd => h d (by simp only [List.map_cons, List.mem_cons]; exact .inr hd)]
    have h1 := foldupd_objs u' s p.1 p.2 (h p.1 (by simp))
    have : ∀ (u : List (Nat × Option Obj)) (s s' : AState), s.objs = s'.objs → (u.foldl (fun s p => s.upd p.1 p.2) s).objs = (u.foldl (fun s p => s.upd p.1 p.2) s').objs := by
      intro u
      induction u with
      | nil => exact fun _ _ h => h
      | cons q u ih => exact fun s s' h => ih _ _ (by simp [AState.upd, h])
    exact this u _ _ h1

theorem AState.ext {s s' : AState} (h1 : s.tmps = s'.tmps) (h2 : s.objs = s'.objs) : s = s' := by
  cases s; cases s'; simp_all

theorem app_objs {d : Option Nat} {v : AV} {u : List (Nat × Option Obj)} : (s.app d v u).objs = (u.foldl (fun s p => s.upd p.1 p.2) s).objs := by
  unfold AState.app
  cases d <;> rfl

theorem foldupd_objs_eq : ∀ (u : List (Nat × Option Obj)) (s s' : AState), s.objs = s'.objs → (u.foldl (fun s p => s.upd p.1 p.2) s).objs = (u.foldl (fun s p => s.upd p.1 p.2) s').objs := by
  intro u
  induction u with
  | nil => exact fun _ _ h => h
  | cons q u ih => exact fun s s' h => ih _ _ (by simp [AState.upd, h])

/-- Two steps that have nothing to do with one another may be turned round. -/
theorem Step.swap (hz : ∀ t ti x, tab t = some ti → x ∉ mentsL ti.zero) {oi oj : Oper} {fi fj : Foot} {s1 s2 : AState} (h1 : Step P eq2 tab ops oi s fi s1) (h2 : Step P eq2 tab ops oj s1 fj s2)
    (hap : oi.apart ops oj = true) (hin : indepF fi fj = true) (hfi : ∀ d ∈ fi.new, s.fresh d) (hfj : ∀ d ∈ fj.new, s.fresh d) (hn : disj fi.new fj.new = true) :
    ∃ s1', Step P eq2 tab ops oj s fj s1' ∧ Step P eq2 tab ops oi s1' fi s2 := by
  obtain ⟨v, u, hd, rfl⟩ := h1
  obtain ⟨v', u', hd', rfl⟩ := h2
  obtain ⟨a1, a2, a3⟩ := Oper.apart_spec hap
  simp only [indepF, Bool.and_eq_true] at hin
  have b1 : ∀ d ∈ u.map (·.1), d ∉ fj.men ∧ d ∉ fj.wr := fun d hx => by
    have := disj_not hin.1 (hd.wr d hx)
    simpa using this
  have b2 : ∀ d ∈ u'.map (·.1), d ∉ fi.men ∧ d ∉ fi.wr := fun d hx => by
    have := disj_not hin.2 (hd'.wr d hx)
    simpa using this
  have look : ∀ (o o' : Oper) (s : AState) (v : AV) (u : List (Nat × Option Obj)), (∀ d, o.dst = some d → d ∉ o'.looksAt ops) → ∀ t ∈ o'.looksAt ops, (s.app o.dst v u).tmps.getD t .junk = s.tmps.getD t .junk := by
    intro o o' s v u h t ht
    rw [app_tmps]
    cases hdst : o.dst with
    | none => rfl
    | some d =>
      simp only
      rw [getD_set]
      split
      · rename_i e; exact absurd ht (e.1 ▸ h d hdst)
      · rfl
  have obj : ∀ (o : Oper) (s : AState) (v : AV) (u : List (Nat × Option Obj)) (L : List Nat), (∀ d ∈ u.map (·.1), d ∉ L) → ∀ d ∈ L, (s.app o.dst v u).obj d = s.obj d := by
    intro o s v u L h d hdL
    rw [app_obj]
    exact fold_obj_other u s (fun hx => h d hx hdL)
  have e1 : Does P eq2 tab ops oj s v' u' fj := hd'.local (fun t ht => (look oi oj s v u a1 t ht).symm) (fun d hx => (obj oi s v u fj.men (fun d hx => (b1 d hx).1) d hx).symm) hfj
  have e2 : Does P eq2 tab ops oi (s.app oj.dst v' u') v u fi := hd.local (look oj oi s v' u' a3) (obj oj s v' u' fi.men (fun d hx => (b2 d hx).1)) (fun d hx => Does.fresh hz e1 (hfi d hx) (fun hx' => disj_not hn hx hx'))
  refine ⟨_, ⟨v', u', e1, rfl⟩, v, u, e2, AState.ext ?_ ?_⟩
  · simp only [app_tmps]
    cases hi : oi.dst with
    | none => rfl
    | some d =>
      cases hj : oj.dst with
      | none => rfl
      | some e =>
        have hne : d ≠ e := fun he => a2 d hi (he ▸ hj)
        simp only
        exact List.set_comm _ _ hne
  · rw [app_objs, app_objs]
    rw [foldupd_objs_eq u' _ _ (app_objs (s := s) (d := oi.dst) (v := v) (u := u)), foldupd_objs_eq u _ _ (app_objs (s := s) (d := oj.dst) (v := v') (u := u'))]
    exact foldupd_comm u u' s fun d hx hx' => (b1 d hx).2 (hd'.wr d hx')

inductive Run (P : Program) (eq2 : TypeId → Bool) (tab : Tab) (ops : Array Oper) : AState → List (Nat × Foot) → AState → Prop
  | nil {s : AState} : Run P eq2 tab ops s [] s
  | cons {s s1 s' : AState} {i : Nat} {o : Oper} {f : Foot} {l : List (Nat × Foot)} (ho : ops[i]? = some o) (h : Step P eq2 tab ops o s f s1) (hr : Run P eq2 tab ops s1 l s') : Run P eq2 tab ops s ((i, f) :: l) s'

/-- The order is told, or is nothing to them. -/
def apartB (ops : Array Oper) (p q : Nat × Foot) : Bool :=
  disj p.2.new q.2.new && match ops[p.1]?, ops[q.1]? with
    | some x, some y => (y.after.any fun e => Region.binds .any e && e.on == p.1) || (x.apart ops y && indepF p.2 q.2)
    | _, _ => false

theorem Step.fresh (hz : ∀ t ti x, tab t = some ti → x ∉ mentsL ti.zero) {o : Oper} {f : Foot} (h : Step P eq2 tab ops o s f s') {x : Nat} (hx : s.fresh x) (hn : x ∉ f.new) : s'.fresh x := by
  obtain ⟨v, u, hd, rfl⟩ := h
  exact Does.fresh hz hd hx hn

theorem Run.pull (hz : ∀ t ti x, tab t = some ti → x ∉ mentsL ti.zero) {i : Nat} {f : Foot} {oi : Oper} (hoi : ops[i]? = some oi) : ∀ (l1 : List (Nat × Foot)) {l2 : List (Nat × Foot)} {s s' : AState}, Run P eq2 tab ops s (l1 ++ (i, f) :: l2) s' →
    (∀ p ∈ l1, disj p.2.new f.new = true ∧ ∀ o, ops[p.1]? = some o → o.apart ops oi = true ∧ indepF p.2 f = true) → (∀ p ∈ l1, ∀ d ∈ p.2.new, s.fresh d) → l1.Pairwise (fun p q => disj p.2.new q.2.new = true) → (∀ d ∈ f.new, s.fresh d) →
    ∃ s1, Step P eq2 tab ops oi s f s1 ∧ Run P eq2 tab ops s1 (l1 ++ l2) s'
  | [], l2, s, s', h, _, _, _, _ => by
    cases h with
    | cons ho h hr =>
      rw [hoi] at ho; cases ho
      exact ⟨_, h, hr⟩
  | p :: l1, l2, s, s', h, hp, hf, hpw, hfi => by
    cases h with
    | @cons _ s1 _ j oj g _ ho h hr =>
      have hpw' := List.pairwise_cons.1 hpw
      obtain ⟨q1, q2⟩ := hp _ List.mem_cons_self
      obtain ⟨q3, q4⟩ := q2 oj ho
      obtain ⟨s2, h2, hr2⟩ := Run.pull hz hoi l1 hr (fun p hp' => hp p (List.mem_cons_of_mem _ hp')) (fun p hp' d hd => h.fresh hz (hf p (List.mem_cons_of_mem _ hp') d hd) (fun hx => disj_not (hpw'.1 p hp') hx hd)) hpw'.2
        (fun d hd => h.fresh hz (hfi d hd) (fun hx => disj_not q1 hx hd))
      obtain ⟨s1', h3, h4⟩ := Step.swap hz h h2 q3 q4 (hf _ List.mem_cons_self) hfi q1
      exact ⟨s1', h3, .cons ho h4 hr2⟩

/-- Every edge that binds goes back. -/
def backB (ops : Array Oper) : Bool := (List.range ops.size).all fun i => match ops[i]? with
  | some o => o.after.all fun e => !Region.binds .any e || Nat.blt e.on i
  | none => true

theorem back_spec (h : backB ops = true) {i : Nat} {o : Oper} (ho : ops[i]? = some o) {e : _} (he : e ∈ o.after) (hb : Region.binds .any e = true) : e.on < i := by
  have hi : i < ops.size := (Array.getElem?_eq_some_iff.1 ho).1
  have := List.all_eq_true.1 h i (by simpa using hi)
  rw [ho] at this
  have := Array.all_eq_true_iff_forall_mem.1 this e he
  simp only [hb, Bool.not_true, Bool.false_or, Nat.blt_eq] at this
  exact this

theorem Step.wpOp (hT : TabOk P tab) (heq : Eq2Ok P eq2) {i : Nat} {o : Oper} (ho : ops[i]? = some o) {f : Foot} (h : Step P eq2 tab ops o s f s') (hs : Sim w0 A0 s a w) {K : Act → World → Prop} (hK : ∀ a w, Sim w0 A0 s' a w → K a w) {Q : Exit → Act → World → Prop} : wpOp P ops Q i K a w := by
  obtain ⟨v, u, hd, rfl⟩ := h
  obtain ⟨A, ρ, hs⟩ := hs
  have := hd.sound (Q := Q) hT heq hs
  unfold Go.wpOp
  rw [ho]
  simp only
  split
  · rename_i hw
    rw [if_pos hw] at this
    exact .inl (Oper.wp_mono hK this)
  · rename_i hw
    rw [if_neg hw] at this
    exact hK _ _ this

theorem any_order (hT : TabOk P tab) (heq : Eq2Ok P eq2) (hz : ∀ t ti x, tab t = some ti → x ∉ mentsL ti.zero) (hback : backB ops = true) {Q : Exit → Act → World → Prop} (hQ : ∀ a w, Sim w0 A0 s' a w → Q .normal a w) :
    ∀ (fuel : Nat) (l : List (Nat × Foot)) (listed : Array Bool) (s : AState) (a : Act) (w : World), l.length ≤ fuel → listed.size = ops.size → (∀ i, listed.getD i true = false ↔ i ∈ l.map (·.1)) →
      l.Pairwise (fun p q => p.1 < q.1) → l.Pairwise (fun p q => apartB ops p q = true) → (∀ p ∈ l, ∀ d ∈ p.2.new, s.fresh d) → Run P eq2 tab ops s l s' → Sim w0 A0 s a w → wpAny P .any ops Q fuel listed a w := by
  intro fuel
  induction fuel with
  | zero =>
    intro l listed s a w hl hsz hli hlt hap hfr hr hs
    have : l = [] := by cases l <;> simp at hl ⊢
    subst this
    cases hr
    refine ⟨?_, hQ _ _ hs⟩
    unfold Region.ready
    rw [List.filter_eq_nil_iff]
    intro i hi
    have : listed.getD i true = true := by
      cases hh : listed.getD i true with
      | true => rfl
      | false => exact absurd ((hli i).1 hh) (by simp)
    simp only [this]; simp
  | succ fuel ih =>
    intro l listed s a w hl hsz hli hlt hap hfr hr hs
    refine ⟨fun h0 => ?_, fun i hi => ?_⟩
    · cases l with
      | nil => cases hr; exact hQ _ _ hs
      | cons p l =>
        exfalso
        obtain ⟨i, f⟩ := p
        cases hr with
        | cons ho h hr =>
          rename_i s1 o
          have : i ∈ Region.ready .any ops listed := by
            rw [mem_ready]
            refine ⟨(hli i).2 (by simp), o, ho, fun e he hb => ?_⟩
            have h1 := back_spec hback ho he hb
            have h2 : e.on < listed.size := by
              have := (Array.getElem?_eq_some_iff.1 ho).1
              omega
            cases hh : listed.getD e.on true with
            | true => simp [h2] at hh ⊢; exact hh
            | false =>
              have := (hli e.on).1 hh
              simp only [List.map_cons, List.mem_cons] at this
              rcases this with h3 | h3
              · omega
              · obtain ⟨q, hq, h4⟩ := List.mem_map.1 h3
                have := (List.pairwise_cons.1 hlt).1 q hq
                simp only at this
                omega
          rw [h0] at this
          cases this
    · obtain ⟨h1, oi, ho, hall⟩ := mem_ready.1 hi
      obtain ⟨⟨i', f⟩, hp, hpe⟩ := List.mem_map.1 ((hli i).1 h1)
      simp only at hpe
      subst hpe
      obtain ⟨l1, l2, rfl⟩ := List.append_of_mem hp
      have hap1 := List.pairwise_append.1 hap
      have hlt1 := List.pairwise_append.1 hlt
      have hap2 := List.pairwise_cons.1 hap1.2.1
      have hlt2 := List.pairwise_cons.1 hlt1.2.1
      have hsplit : ∀ {p q : Nat × Foot}, apartB ops p q = true → disj p.2.new q.2.new = true := fun h => by
        unfold apartB at h
        rw [Bool.and_eq_true] at h
        exact h.1
      obtain ⟨s1, hst, hrun⟩ := Run.pull hz ho l1 hr (fun p hp => by
          have h2 := hap1.2.2 p hp (i', f) (by simp)
          refine ⟨hsplit h2, fun o hop => ?_⟩
          unfold apartB at h2
          rw [Bool.and_eq_true] at h2
          have h3 := h2.2
          rw [hop, ho] at h3
          simp only [Bool.or_eq_true, Bool.and_eq_true] at h3
          rcases h3 with h3 | h3
          · exfalso
            obtain ⟨e, he, hb⟩ := Array.any_eq_true'.1 h3
            simp only [Bool.and_eq_true, beq_iff_eq] at hb
            have h4 := hall e he hb.1
            rw [hb.2] at h4
            have h5 : listed.getD p.1 true = false := (hli p.1).2 (List.mem_map.2 ⟨p, by simp [hp], rfl⟩)
            have h6 : p.1 < listed.size := by rw [hsz]; exact (Array.getElem?_eq_some_iff.1 hop).1
            simp [h6] at h4 h5
            rw [h4] at h5; cases h5
          · exact h3)
        (fun p hp => hfr p (by simp [hp])) (hap1.1.imp hsplit) (hfr (i', f) (by simp))
      refine Step.wpOp hT heq ho hst hs fun a' w' hs' => ih (l1 ++ l2) (listed.setIfInBounds i' true) s1 a' w' ?_ (by simpa using hsz) ?_ ?_ ?_ ?_ hrun hs'
      · simp at hl ⊢; omega
      · intro j
        by_cases hij : i' = j
        · subst hij
          have h6 : i' < listed.size := by rw [hsz]; exact (Array.getElem?_eq_some_iff.1 ho).1
          have : (listed.setIfInBounds i' true).getD i' true = true := by simp [h6]
          rw [this]
          constructor
          · intro h; cases h
          · intro h
            exfalso
            rw [List.map_append, List.mem_append] at h
            rcases h with h | h
            · obtain ⟨q, hq, h4⟩ := List.mem_map.1 h
              have := hlt1.2.2 q hq (i', f) (by simp)
              simp only at this
              omega
            · obtain ⟨q, hq, h4⟩ := List.mem_map.1 h
              have := hlt2.1 q hq
              simp only at this
              omega
        · rw [getD_set_ne true hij, hli j]
          simp only [List.map_append, List.map_cons, List.mem_append, List.mem_cons]
          constructor
          · rintro (h | h | h)
            · exact .inl h
            · exact absurd h.symm hij
            · exact .inr h
          · rintro (h | h)
            · exact .inl h
            · exact .inr (.inr h)
      · exact List.pairwise_append.2 ⟨hlt1.1, hlt2.2, fun p hp q hq => hlt1.2.2 p hp q (List.mem_cons_of_mem _ hq)⟩
      · exact List.pairwise_append.2 ⟨hap1.1, hap2.2, fun p hp q hq => hap1.2.2 p hp q (List.mem_cons_of_mem _ hq)⟩
      · intro p hp d hd
        rw [List.mem_append] at hp
        refine hst.fresh hz (hfr p (by rw [List.mem_append, List.mem_cons]; rcases hp with h | h; exact .inl h; exact .inr (.inr h)) d hd) (fun hx => ?_)
        rcases hp with h | h
        · exact disj_not (hsplit (hap1.2.2 p h (i', f) (by simp))) hd hx
        · exact disj_not (hsplit (hap2.1 p h)) hx hd

end
end Go.Proofs.Ytefbgdnobnemkaa.AM
