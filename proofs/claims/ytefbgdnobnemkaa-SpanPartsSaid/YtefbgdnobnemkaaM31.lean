/-
  The abstract machine's states as trees, so that a step costs little.
-/
import Derived.Test.YtefbgdnobnemkaaM30
namespace Go.Proofs.Ytefbgdnobnemkaa.AM
open Go Go.RowKit

inductive TT (α : Type) where
  | leaf (x : α)
  | node (l r : TT α)

namespace TT
variable {α β : Type}

def get : TT α → Nat → α
  | .leaf x, _ => x
  | .node l r, d => match Nat.beq (d % 2) 0 with
    | true => l.get (d / 2)
    | false => r.get (d / 2)

def set : TT α → Nat → α → TT α
  | .leaf _, _, x => .leaf x
  | .node l r, d, x => match Nat.beq (d % 2) 0 with
    | true => .node (l.set (d / 2) x) r
    | false => .node l (r.set (d / 2) x)

def setF : TT α → Nat → α → (TT α → β) → β
  | .leaf _, _, x, k => k (.leaf x)
  | .node l r, d, x, k => match Nat.beq (d % 2) 0 with
    | true => l.setF (d / 2) x fun l => k (.node l r)
    | false => r.setF (d / 2) x fun r => k (.node l r)

theorem setF_eq : ∀ (t : TT α) (d : Nat) (x : α) (k : TT α → β), t.setF d x k = k (t.set d x)
  | .leaf _, _, _, _ => rfl
  | .node l r, d, x, k => by
    simp only [setF, set]
    cases Nat.beq (d % 2) 0 <;> simp only [setF_eq]

def perf : TT α → Nat → Bool
  | .leaf _, 0 => true
  | .node l r, k + 1 => l.perf k && r.perf k
  | _, _ => false

theorem perf_set : ∀ (t : TT α) (d : Nat) (x : α) (k : Nat), (t.set d x).perf k = t.perf k
  | .leaf _, _, _, 0 => rfl
  | .leaf _, _, _, _ + 1 => rfl
  | .node l r, d, x, 0 => by
    simp only [set]
    cases Nat.beq (d % 2) 0 <;> rfl
  | .node l r, d, x, k + 1 => by
    simp only [set]
    cases Nat.beq (d % 2) 0 <;> simp only [perf, perf_set]

theorem get_set : ∀ (t : TT α) (k : Nat) (_ : t.perf k = true) (d d' : Nat) (x : α), d < 2 ^ k → d' < 2 ^ k → (t.set d x).get d' = if d = d' then x else t.get d'
  | .leaf _, 0, _, d, d', x, h1, h2 => by
    have : d = d' := by omega
    simp [set, get, this]
  | .leaf _, k + 1, h, _, _, _, _, _ => by cases h
  | .node l r, 0, h, _, _, _, _, _ => by cases h
  | .node l r, k + 1, h, d, d', x, h1, h2 => by
    simp only [perf, Bool.and_eq_true] at h
    have e1 : d / 2 < 2 ^ k := by omega
    have e2 : d' / 2 < 2 ^ k := by omega
    have b : ∀ n : Nat, (Nat.beq (n % 2) 0 = true ∧ n % 2 = 0) ∨ (Nat.beq (n % 2) 0 = false ∧ n % 2 = 1) := fun n => by
      rcases Nat.mod_two_eq_zero_or_one n with e | e <;> rw [e]
      · exact .inl ⟨rfl, rfl⟩
      · exact .inr ⟨rfl, rfl⟩
    rcases b d with ⟨b1, b2⟩ | ⟨b1, b2⟩ <;> rcases b d' with ⟨c1, c2⟩ | ⟨c1, c2⟩
    · simp only [set, get, b1, c1, get_set l k h.1 _ _ x e1 e2]
      by_cases e : d = d'
      · subst e; simp
      · rw [if_neg e, if_neg (by omega)]
    · simp only [set, get, b1, c1]
      rw [if_neg (by omega)]
    · simp only [set, get, b1, c1]
      rw [if_neg (by omega)]
    · simp only [set, get, b1, c1, get_set r k h.2 _ _ x e1 e2]
      by_cases e : d = d'
      · subst e; simp
      · rw [if_neg e, if_neg (by omega)]
end TT

/-- Nothing told; no object. -/
def J : Nat → TT AV
  | 0 => .leaf .junk
  | k + 1 => .node (J k) (J k)
def OO : Nat → TT (Option Obj)
  | 0 => .leaf none
  | k + 1 => .node (OO k) (OO k)

theorem J_get : ∀ k d, (J k).get d = .junk
  | 0, _ => rfl
  | k + 1, d => by
    simp only [J, TT.get, J_get k]
    cases Nat.beq (d % 2) 0 <;> rfl
theorem OO_get : ∀ k d, (OO k).get d = none
  | 0, _ => rfl
  | k + 1, d => by
    simp only [OO, TT.get, OO_get k]
    cases Nat.beq (d % 2) 0 <;> rfl

structure TS where
  n : Nat
  k : Nat
  t : TT AV
  o : TT (Option Obj)

namespace TS

def good (T : TS) : Bool := T.t.perf T.k && T.o.perf T.k && Nat.ble T.n (2 ^ T.k)

def st (T : TS) : AState := ⟨(List.range T.n).map T.t.get, (List.range T.n).map T.o.get⟩

def tmp (T : TS) (i : Nat) : AV := match Nat.blt i T.n with
  | true => T.t.get i
  | false => .junk
def obj (T : TS) (i : Nat) : Option Obj := match Nat.blt i T.n with
  | true => T.o.get i
  | false => none

def ev (T : TS) : Operand → AV
  | .tmp t => T.tmp t
  | .const v => absV v
  | .global _ => .junk
  | .func f => .fn f []

def put (T : TS) (d : Option Nat) (x : AV) : TS := match d with
  | some d => match Nat.blt d T.n with
    | true => { T with t := T.t.set d x }
    | false => T
  | none => T

def upd (T : TS) (d : Nat) (x : Option Obj) : TS := match Nat.blt d T.n with
  | true => { T with o := T.o.set d x }
  | false => T

theorem blt_iff {a b : Nat} : Nat.blt a b = true ↔ a < b := by
  unfold Nat.blt
  rw [Nat.ble_eq]
  exact Iff.rfl
theorem blt_not {a b : Nat} : Nat.blt a b = false ↔ ¬ a < b := by
  rw [← blt_iff]; cases Nat.blt a b <;> simp

theorem st_tmp (T : TS) (i : Nat) : T.st.tmps.getD i .junk = T.tmp i := by
  unfold st tmp
  rcases Nat.lt_or_ge i T.n with h | h
  · rw [blt_iff.2 h]
    simp [List.getD_eq_getElem?_getD, h]
  · rw [blt_not.2 (by omega)]
    simp [List.getD_eq_getElem?_getD, h]
theorem st_obj' (T : TS) (i : Nat) : T.st.obj i = T.obj i := by
  unfold st obj AState.obj
  rcases Nat.lt_or_ge i T.n with h | h
  · rw [blt_iff.2 h]
    simp [List.getD_eq_getElem?_getD, h]
  · rw [blt_not.2 (by omega)]
    simp [List.getD_eq_getElem?_getD, h]
theorem st_obj (T : TS) : T.st.obj = T.obj := funext T.st_obj'
theorem st_ev (T : TS) : T.st.ev = T.ev := by
  funext x
  cases x with
  | tmp t => exact T.st_tmp t
  | _ => rfl

theorem map_set {α : Type} {t : TT α} {k n d : Nat} (hp : t.perf k = true) (hn : n ≤ 2 ^ k) (hd : d < n) (x : α) : ((List.range n).map t.get).set d x = (List.range n).map (t.set d x).get := by
  apply List.ext_getElem?
  intro i
  rw [List.getElem?_set]
  rcases Nat.lt_or_ge i n with h | h
  · simp only [List.length_map, List.length_range, hd, if_true, List.getElem?_map, List.getElem?_range h, Option.map_some, TT.get_set t k hp d i x (by omega) (by omega)]
    split <;> rfl
  · rw [if_neg (by omega)]
    simp [h]

theorem put_st {T : TS} (hg : T.good = true) (d : Option Nat) (x : AV) : (T.put d x).st = T.st.put d x ∧ (T.put d x).good = true := by
  have hg' := hg
  unfold good at hg
  simp only [Bool.and_eq_true, Nat.ble_eq] at hg
  cases d with
  | none => exact ⟨rfl, hg'⟩
  | some d =>
    unfold put
    simp only
    cases hb : Nat.blt d T.n with
    | true =>
      refine ⟨?_, ?_⟩
      · simp only [st, AState.put]
        rw [map_set hg.1.1 hg.2 (blt_iff.1 hb)]
      · simp only [good, TT.perf_set, Bool.and_eq_true, Nat.ble_eq]; exact hg
    | false =>
      refine ⟨?_, hg'⟩
      simp only [st, AState.put]
      rw [List.set_eq_of_length_le]
      have := blt_not.1 hb
      simpa using this
theorem upd_st {T : TS} (hg : T.good = true) (d : Nat) (x : Option Obj) : (T.upd d x).st = T.st.upd d x ∧ (T.upd d x).good = true := by
  have hg' := hg
  unfold good at hg
  simp only [Bool.and_eq_true, Nat.ble_eq] at hg
  unfold upd
  cases hb : Nat.blt d T.n with
  | true =>
    refine ⟨?_, ?_⟩
    · simp only [st, AState.upd]
      rw [map_set hg.1.2 hg.2 (blt_iff.1 hb)]
    · simp only [good, TT.perf_set, Bool.and_eq_true, Nat.ble_eq]; exact hg
  | false =>
    refine ⟨?_, hg'⟩
    simp only [st, AState.upd]
    rw [List.set_eq_of_length_le]
    have := blt_not.1 hb
    simpa using this

def app (T : TS) (dst : Option Nat) (v : AV) (u : List (Nat × Option Obj)) : TS := (u.foldl (fun T p => T.upd p.1 p.2) T).put dst v

theorem app_st {T : TS} (hg : T.good = true) (dst : Option Nat) (v : AV) (u : List (Nat × Option Obj)) : (T.app dst v u).st = T.st.app dst v u ∧ (T.app dst v u).good = true := by
  unfold app AState.app
  induction u generalizing T with
  | nil => exact put_st hg dst v
  | cons p u ih =>
    have h1 := upd_st hg p.1 p.2
    have := ih h1.2
    simp only [List.foldl_cons]
    rw [← h1.1]
    exact this

/-- The same, each part told by a constructor. -/
def putF {β : Type} (T : TS) (d : Option Nat) (x : AV) (k : TS → β) : β := match d with
  | some d => match Nat.blt d T.n with
    | true => match T with | ⟨n, m, t, o⟩ => forceAV x fun x => t.setF d x fun t => k ⟨n, m, t, o⟩
    | false => k T
  | none => k T
theorem putF_eq {β : Type} (T : TS) (d : Option Nat) (x : AV) (k : TS → β) : T.putF d x k = k (T.put d x) := by
  unfold putF put
  cases d with
  | none => rfl
  | some d =>
    simp only
    cases Nat.blt d T.n with
    | true => simp only [forceAV_eq, TT.setF_eq]
    | false => rfl

def forceOO {β : Type} (o : Option Obj) (k : Option Obj → β) : β := match o with
  | none => k none
  | some o => forceO o fun o => k (some o)
theorem forceOO_eq {β : Type} (o : Option Obj) (k : Option Obj → β) : forceOO o k = k o := by cases o <;> simp only [forceOO, forceO_eq]

def updF {β : Type} (T : TS) (d : Nat) (x : Option Obj) (k : TS → β) : β := match Nat.blt d T.n with
  | true => match T with | ⟨n, m, t, o⟩ => forceOO x fun x => o.setF d x fun o => k ⟨n, m, t, o⟩
  | false => k T
theorem updF_eq {β : Type} (T : TS) (d : Nat) (x : Option Obj) (k : TS → β) : T.updF d x k = k (T.upd d x) := by
  unfold updF upd
  cases Nat.blt d T.n with
  | true => simp only [forceOO_eq, TT.setF_eq]
  | false => rfl

def updsF {β : Type} : List (Nat × Option Obj) → TS → (TS → β) → β
  | [], T, k => k T
  | (d, x) :: u, T, k => T.updF d x fun T => updsF u T k
theorem updsF_eq {β : Type} : ∀ (u : List (Nat × Option Obj)) (T : TS) (k : TS → β), updsF u T k = k (u.foldl (fun T p => T.upd p.1 p.2) T)
  | [], T, k => rfl
  | (d, x) :: u, T, k => by simp only [updsF, updF_eq, updsF_eq u, List.foldl_cons]

def appF {β : Type} (T : TS) (dst : Option Nat) (v : AV) (u : List (Nat × Option Obj)) (k : TS → β) : β := updsF u T fun T => T.putF dst v k
theorem appF_eq {β : Type} (T : TS) (dst : Option Nat) (v : AV) (u : List (Nat × Option Obj)) (k : TS → β) : T.appF dst v u k = k (T.app dst v u) := by
  unfold appF app
  rw [updsF_eq, putF_eq]

def want (ops : Array Oper) (o : Oper) (T : TS) : Option Bool :=
  match o.guard with
  | none => some true
  | some (j, want) => match (ops[j]?).bind (·.dst) with
    | some d => match T.tmp d with
      | .bool b => some (b == want)
      | .tup [] => some false
      | _ => none
    | none => some false

theorem want_st (ops : Array Oper) (o : Oper) (T : TS) : wantB ops o T.st = want ops o T := by
  unfold wantB want
  rcases o.guard with _ | ⟨j, w⟩
  · rfl
  · simp only
    rcases (ops[j]?).bind (·.dst) with _ | d
    · rfl
    · simp only [st_tmp]
      cases T.tmp d with
      | tup vs => cases vs <;> rfl
      | _ => rfl

def freshA (T : TS) (l : List Nat) : Bool := l.all (freshB T.st)

end TS

/-- What a run of operations comes to: what it asks, checks, its trace, the rest. -/
inductive MR where
  | mk (pre : List Prop) (chk : Bool) (tr : List (Nat × Foot)) (i : Nat) (l : List Oper) (T : TS)

def many (eq2 : TypeId → Bool) (tab : Tab) (ops : Array Oper) : List Oper → Nat → TS → List Prop → Bool → List (Nat × Foot) → MR
  | [], i, T, pre, chk, tr => .mk pre chk tr i [] T
  | o :: l, i, T, pre, chk, tr => match TS.want ops o T with
    | some true => match aop eq2 tab o T.ev T.obj with
      | .val p v u n => T.appF o.dst v u fun T' => match n with
        | [] => many eq2 tab ops l (i + 1) T' (p :: pre) chk ((i, ⟨opMents o T.ev, u.map (·.1), []⟩) :: tr)
        | d :: n => many eq2 tab ops l (i + 1) T' (p :: pre) (chk && T.freshA (d :: n)) ((i, ⟨opMents o T.ev, u.map (·.1), d :: n⟩) :: tr)
      | _ => .mk pre chk tr i (o :: l) T
    | some false => T.appF o.dst (.tup []) [] fun T' => many eq2 tab ops l (i + 1) T' pre chk ((i, ⟨[], [], []⟩) :: tr)
    | none => .mk pre chk tr i (o :: l) T

def allProp : List Prop → Prop
  | [] => True
  | p :: l => p ∧ allProp l

/-- The rest of a region's operations. -/
structure TRun (P : Program) (eq2 : TypeId → Bool) (tab : Tab) (ops : Array Oper) (i : Nat) (l : List Oper) (T : TS) (K : List (Nat × Foot) → TS → Prop) : Prop where
  run : T.good = true → ARun P eq2 tab ops i l T.st fun tr s => ∃ T', T'.good = true ∧ s = T'.st ∧ K tr T'

section
variable {P : Program} {eq2 : TypeId → Bool} {tab : Tab} {ops : Array Oper} {i : Nat} {l : List Oper} {T T1 T2 : TS} {K : List (Nat × Foot) → TS → Prop} {o : Oper}

theorem ARun.mono {s : AState} {K K' : List (Nat × Foot) → AState → Prop} (hk : ∀ tr s, K tr s → K' tr s) (h : ARun P eq2 tab ops i l s K) : ARun P eq2 tab ops i l s K' := ⟨fun hl => by
  obtain ⟨tr, s', h1, h2, h3⟩ := h.run hl
  exact ⟨tr, s', h1, h2, hk _ _ h3⟩⟩

theorem TRun.nil (h : K [] T) : TRun P eq2 tab ops i [] T K := ⟨fun hg => .nil ⟨T, hg, rfl, h⟩⟩

theorem TRun.skip (hw : TS.want ops o T = some false) (h : TRun P eq2 tab ops (i + 1) l (T.app o.dst (.tup []) []) fun tr T' => K ((i, ⟨[], [], []⟩) :: tr) T') : TRun P eq2 tab ops i (o :: l) T K := ⟨fun hg => by
  have h1 := TS.app_st hg o.dst (.tup []) []
  refine ARun.skip (by rw [TS.want_st]; exact hw) h1.1.symm ((h.run h1.2).mono fun tr s h => h)⟩

theorem TRun.val {pre : Prop} {v : AV} {u : List (Nat × Option Obj)} {n : List Nat} (hw : TS.want ops o T = some true) (hx : aop eq2 tab o T.ev T.obj = .val pre v u n) (hf : T.freshA n = true) (hp : pre)
    (h : TRun P eq2 tab ops (i + 1) l (T.app o.dst v u) fun tr T' => K ((i, ⟨opMents o T.ev, u.map (·.1), n⟩) :: tr) T') : TRun P eq2 tab ops i (o :: l) T K := ⟨fun hg => by
  have h1 := TS.app_st hg o.dst v u
  refine ARun.val (by rw [TS.want_st]; exact hw) (by rw [TS.st_ev, TS.st_obj]; exact hx) hf h1.1.symm hp ?_
  rw [TS.st_ev]
  exact (h.run h1.2).mono fun tr s h => h⟩

theorem MR.mk_inj {pre pre' : List Prop} {chk chk' : Bool} {tr tr' : List (Nat × Foot)} {i i' : Nat} {l l' : List Oper} {T T' : TS} (h : MR.mk pre chk tr i l T = .mk pre' chk' tr' i' l' T') : pre = pre' ∧ chk = chk' ∧ tr = tr' ∧ i = i' ∧ l = l' ∧ T = T' := by
  cases h; exact ⟨rfl, rfl, rfl, rfl, rfl, rfl⟩

theorem many_grows : ∀ {l : List Oper} {i : Nat} {T : TS} {pre pre' : List Prop} {chk chk' : Bool} {tr tr' : List (Nat × Foot)} {i' : Nat} {l' : List Oper} {T' : TS},
    many eq2 tab ops l i T pre chk tr = .mk pre' chk' tr' i' l' T' → (∃ ps, pre' = ps ++ pre) ∧ (chk' = true → chk = true) ∧ ∃ ts, tr' = ts ++ tr
  | [], i, T, pre, pre', chk, chk', tr, tr', i', l', T', h => by
    obtain ⟨rfl, rfl, rfl, _⟩ := MR.mk_inj h
    exact ⟨⟨[], rfl⟩, id, [], rfl⟩
  | o :: l, i, T, pre, pre', chk, chk', tr, tr', i', l', T', h => by
    have stop : MR.mk pre chk tr i (o :: l) T = .mk pre' chk' tr' i' l' T' → (∃ ps, pre' = ps ++ pre) ∧ (chk' = true → chk = true) ∧ ∃ ts, tr' = ts ++ tr := fun h => by
      obtain ⟨rfl, rfl, rfl, _⟩ := MR.mk_inj h
      exact ⟨⟨[], rfl⟩, id, [], rfl⟩
    simp only [many] at h
    split at h
    · split at h
      · rw [TS.appF_eq] at h
        split at h
        · obtain ⟨⟨ps, h1⟩, h2, ts, h3⟩ := many_grows h
          rw [List.append_cons] at h1 h3
          exact ⟨⟨_, h1⟩, h2, _, h3⟩
        · obtain ⟨⟨ps, h1⟩, h2, ts, h3⟩ := many_grows h
          rw [List.append_cons] at h1 h3
          exact ⟨⟨_, h1⟩, fun hc => (Bool.and_eq_true _ _ ▸ h2 hc).1, _, h3⟩
      · exact stop h
    · rw [TS.appF_eq] at h
      obtain ⟨h1, h2, ts, h3⟩ := many_grows h
      rw [List.append_cons] at h3
      exact ⟨h1, h2, _, h3⟩
    · exact stop h

theorem allProp_mem : ∀ {l : List Prop}, allProp l → ∀ p ∈ l, p
  | _ :: _, h, p, hp => by
    rcases List.mem_cons.1 hp with rfl | hp
    · exact h.1
    · exact allProp_mem h.2 p hp

theorem many_run : ∀ {l : List Oper} {i : Nat} {T : TS} {pre pre' : List Prop} {chk chk' : Bool} {tr tr' : List (Nat × Foot)} {i' : Nat} {l' : List Oper} {T' : TS} {K : List (Nat × Foot) → TS → Prop},
    many eq2 tab ops l i T pre chk tr = .mk pre' chk' tr' i' l' T' → chk' = true → allProp pre' → (∀ ts, tr' = ts ++ tr → TRun P eq2 tab ops i' l' T' fun t T' => K (ts.reverse ++ t) T') → TRun P eq2 tab ops i l T K
  | [], i, T, pre, pre', chk, chk', tr, tr', i', l', T', K, h, hc, hp, hr => by
    obtain ⟨rfl, rfl, rfl, rfl, rfl, rfl⟩ := MR.mk_inj h
    exact hr [] rfl
  | o :: l, i, T, pre, pre', chk, chk', tr, tr', i', l', T', K, h, hc, hp, hr => by
    have stop : MR.mk pre chk tr i (o :: l) T = .mk pre' chk' tr' i' l' T' → TRun P eq2 tab ops i (o :: l) T K := fun h => by
      obtain ⟨rfl, rfl, rfl, rfl, rfl, rfl⟩ := MR.mk_inj h
      exact hr [] rfl
    simp only [many] at h
    split at h
    · rename_i hw
      split at h
      · rename_i p v u n hx
        rw [TS.appF_eq] at h
        split at h
        · obtain ⟨⟨ps, h1⟩, _, _⟩ := many_grows h
          refine .val hw hx rfl (allProp_mem hp _ (by rw [h1]; simp)) (many_run h hc hp fun ts hts => ?_)
          rw [List.append_cons] at hts
          have := hr _ hts
          simpa using this
        · obtain ⟨⟨ps, h1⟩, h2, _⟩ := many_grows h
          refine .val hw hx (Bool.and_eq_true _ _ ▸ h2 hc).2 (allProp_mem hp _ (by rw [h1]; simp)) (many_run h hc hp fun ts hts => ?_)
          rw [List.append_cons] at hts
          have := hr _ hts
          simpa using this
      · exact stop h
    · rename_i hw
      rw [TS.appF_eq] at h
      refine .skip hw (many_run h hc hp fun ts hts => ?_)
      rw [List.append_cons] at hts
      have := hr _ hts
      simpa using this
    · exact stop h

theorem TRun.many {pre : List Prop} {chk : Bool} {tr : List (Nat × Foot)} {i' : Nat} {l' : List Oper} {T' : TS}
    (h : many eq2 tab ops l i T [] true [] = .mk pre chk tr i' l' T') (_ : Nat.blt i i' = true) (hc : chk = true) (hp : allProp pre) (hr : TRun P eq2 tab ops i' l' T' fun t T' => K (tr.reverse ++ t) T') : TRun P eq2 tab ops i l T K :=
  many_run h hc hp fun ts hts => by rw [List.append_nil] at hts; rw [← hts]; exact hr

theorem TRun.test {φ : Prop} {d : Decidable φ} {b : Bool} (hb : decide φ = b) (hw : TS.want ops o T = some true) (hx : aop eq2 tab o T.ev T.obj = .test φ d) (hs : T.appF o.dst (.bool b) [] some = some T1)
    (h : TRun P eq2 tab ops (i + 1) l T1 fun tr T' => K ((i, ⟨opMents o T.ev, [], []⟩) :: tr) T') : TRun P eq2 tab ops i (o :: l) T K := ⟨fun hg => by
  rw [TS.appF_eq] at hs
  cases hs
  have h1 := TS.app_st hg o.dst (.bool b) []
  refine ARun.test (by rw [TS.want_st]; exact hw) (by rw [TS.st_ev, TS.st_obj]; exact hx) (s1 := (T.app o.dst (.bool b) []).st) (by rw [hb]; exact h1.1.symm) ?_
  rw [TS.st_ev]
  exact (h.run h1.2).mono fun tr s h => h⟩

theorem TRun.yes {φ : Prop} {d : Decidable φ} (hw : TS.want ops o T = some true) (hx : aop eq2 tab o T.ev T.obj = .test φ d) (hφ : φ) (hs : T.appF o.dst (.bool true) [] some = some T1)
    (h : TRun P eq2 tab ops (i + 1) l T1 fun tr T' => K ((i, ⟨opMents o T.ev, [], []⟩) :: tr) T') : TRun P eq2 tab ops i (o :: l) T K :=
  .test (decide_eq_true hφ) hw hx hs h
theorem TRun.no {φ : Prop} {d : Decidable φ} (hw : TS.want ops o T = some true) (hx : aop eq2 tab o T.ev T.obj = .test φ d) (hφ : ¬ φ) (hs : T.appF o.dst (.bool false) [] some = some T1)
    (h : TRun P eq2 tab ops (i + 1) l T1 fun tr T' => K ((i, ⟨opMents o T.ev, [], []⟩) :: tr) T') : TRun P eq2 tab ops i (o :: l) T K :=
  .test (decide_eq_false hφ) hw hx hs h
theorem TRun.same {α : Type} {x : α} {d : Decidable (x = x)} (hw : TS.want ops o T = some true) (hx : aop eq2 tab o T.ev T.obj = .test (x = x) d) (hs : T.appF o.dst (.bool true) [] some = some T1)
    (h : TRun P eq2 tab ops (i + 1) l T1 fun tr T' => K ((i, ⟨opMents o T.ev, [], []⟩) :: tr) T') : TRun P eq2 tab ops i (o :: l) T K :=
  .yes hw hx rfl hs h
theorem TRun.same2 {x y : Int} {d : Decidable (x = x ∧ y = y)} (hw : TS.want ops o T = some true) (hx : aop eq2 tab o T.ev T.obj = .test (x = x ∧ y = y) d) (hs : T.appF o.dst (.bool true) [] some = some T1)
    (h : TRun P eq2 tab ops (i + 1) l T1 fun tr T' => K ((i, ⟨opMents o T.ev, [], []⟩) :: tr) T') : TRun P eq2 tab ops i (o :: l) T K :=
  .yes hw hx ⟨rfl, rfl⟩ hs h

theorem TRun.split {φ : Prop} {d : Decidable φ} (hw : TS.want ops o T = some true) (hx : aop eq2 tab o T.ev T.obj = .test φ d) (hs : T.appF o.dst (.bool true) [] some = some T1) (hs2 : T.appF o.dst (.bool false) [] some = some T2)
    (h : φ → TRun P eq2 tab ops (i + 1) l T1 fun tr T' => K ((i, ⟨opMents o T.ev, [], []⟩) :: tr) T') (h2 : ¬ φ → TRun P eq2 tab ops (i + 1) l T2 fun tr T' => K ((i, ⟨opMents o T.ev, [], []⟩) :: tr) T') : TRun P eq2 tab ops i (o :: l) T K := by
  by_cases hφ : φ
  · exact .yes hw hx hφ hs (h hφ)
  · exact .no hw hx hφ hs2 (h2 hφ)

/-- An answer that isn't parted: what is told of it is told of a Bool. -/
theorem TRun.bool {φ : Prop} {d : Decidable φ} (hw : TS.want ops o T = some true) (hx : aop eq2 tab o T.ev T.obj = .test φ d) (hs : T.appF o.dst (.bool (decide φ)) [] some = some T1)
    (h : TRun P eq2 tab ops (i + 1) l T1 fun tr T' => K ((i, ⟨opMents o T.ev, [], []⟩) :: tr) T') : TRun P eq2 tab ops i (o :: l) T K :=
  .test rfl hw hx hs h

def frzT (T : TS) (L : List Nat) : List (Nat × Option Obj) := L.map fun d => (d, (T.obj d).map frzO)

theorem TRun.call {c : Call} {fop : Operand} {g : FuncId} {caps : List AV} {r : AV} {args : List AV} (hw : TS.want ops o T = some true) (ho : o.op = .call c) (hc : c.callee = .value fop) (hg : T.ev fop = .fn g caps) (hr : Pure P g args r)
    (ha : (callArgs c caps T.ev).map (closeV T.obj 5) = args) (hm : mentsL args = []) (hcl : allP (closeP T.obj 5) (callArgs c caps T.ev))
    (hs : T.appF o.dst r (match r.flat with | true => [] | false => frzT T ((callArgs c caps T.ev).flatMap (visits T.obj 5))) some = some T1)
    (h : TRun P eq2 tab ops (i + 1) l T1 fun tr T' => K ((i, ⟨opMents o T.ev ++ (callArgs c caps T.ev).flatMap (visits T.obj 5), match r.flat with | true => [] | false => (callArgs c caps T.ev).flatMap (visits T.obj 5), []⟩) :: tr) T') : TRun P eq2 tab ops i (o :: l) T K := ⟨fun hgood => by
  rw [TS.appF_eq] at hs
  cases hs
  have h1 := TS.app_st hgood o.dst r (match r.flat with | true => [] | false => frzT T ((callArgs c caps T.ev).flatMap (visits T.obj 5)))
  have e : frz T.st ((callArgs c caps T.ev).flatMap (visits T.obj 5)) = frzT T ((callArgs c caps T.ev).flatMap (visits T.obj 5)) := by
    unfold frz frzT; rw [TS.st_obj]
  refine ARun.call (by rw [TS.want_st]; exact hw) ho hc (by rw [TS.st_ev]; exact hg) (by rw [TS.st_ev, TS.st_obj]; exact ha) hm hr (by rw [TS.st_ev, TS.st_obj]; exact hcl) (s1 := (T.app o.dst r (match r.flat with | true => [] | false => frzT T ((callArgs c caps T.ev).flatMap (visits T.obj 5)))).st) (by rw [TS.st_ev, TS.st_obj, e]; exact h1.1.symm) ?_
  rw [TS.st_ev, TS.st_obj]
  exact (h.run h1.2).mono fun tr s h => h⟩

theorem TRun.callB {c : Call} {fop : Operand} {g : FuncId} {caps : List AV} {b : Bool} {args : List AV} (hw : TS.want ops o T = some true) (ho : o.op = .call c) (hc : c.callee = .value fop) (hg : T.ev fop = .fn g caps) (hr : Pure P g args (.bool b))
    (ha : (callArgs c caps T.ev).map (closeV T.obj 5) = args) (hm : mentsL args = []) (hcl : allP (closeP T.obj 5) (callArgs c caps T.ev))
    (hs : T.appF o.dst (.bool true) [] some = some T1) (hs2 : T.appF o.dst (.bool false) [] some = some T2)
    (h : b = true → TRun P eq2 tab ops (i + 1) l T1 fun tr T' => K ((i, ⟨opMents o T.ev ++ (callArgs c caps T.ev).flatMap (visits T.obj 5), [], []⟩) :: tr) T')
    (h2 : b = false → TRun P eq2 tab ops (i + 1) l T2 fun tr T' => K ((i, ⟨opMents o T.ev ++ (callArgs c caps T.ev).flatMap (visits T.obj 5), [], []⟩) :: tr) T') : TRun P eq2 tab ops i (o :: l) T K := by
  cases b with
  | true => exact .call hw ho hc hg hr ha hm hcl hs (h rfl)
  | false => exact .call hw ho hc hg hr ha hm hcl hs2 (h2 rfl)

end
end Go.Proofs.Ytefbgdnobnemkaa.AM
