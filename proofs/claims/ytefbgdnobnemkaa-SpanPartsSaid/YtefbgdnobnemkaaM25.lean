/-
  A function's law out of its body's.
-/
import Derived.Test.YtefbgdnobnemkaaM24
namespace Go.Proofs.Ytefbgdnobnemkaa.AM
open Go Go.RowKit

def resV (ts : List Tmp) (tmps : Array Value) : Value :=
  match ts with
  | [t] => tmps.getD t undef
  | ts => .tuple (ts.map fun t => tmps.getD t undef).toArray

/-- What a function that has come to its end returns. -/
def resAV (ts : List Tmp) (s : AState) : AV :=
  match ts with
  | [t] => s.tmps.getD t .junk
  | ts => .tup (ts.map fun t => s.tmps.getD t .junk)

/-- A function's end: the result, closed, is this. -/
structure Fin (ts : List Tmp) (r : AV) (s : AState) : Prop where
  close : closeV s.obj 5 (resAV ts s) = r
  need : closeP s.obj 5 (resAV ts s)

def finQ (ts : List Tmp) (r : AV) : Exit → AState → Prop
  | .normal, s => Fin ts r s
  | .ret, s => Fin ts r s
  | _, _ => False

def begin (n : Nat) (args : List AV) : AState := ⟨args ++ List.replicate (n - args.length) .junk, List.replicate n none⟩

theorem resultsV {P : Program} {w : World} {tmps : Array Value} {fn : Func} {ts : List Tmp} (h : fn.results = (ts.map .tmp).toArray) (hl : ts.length ≤ 5) :
    (results fn tmps).run P w = .ok (resV ts tmps) w := by
  match ts, hl with
  | [], _ => simp [results, h, resV]
  | [a], _ => simp [results, h, resV]
  | [a, b], _ => simp [results, h, resV]
  | [a, b, c], _ => simp [results, h, resV]
  | [a, b, c, d], _ => simp [results, h, resV]
  | [a, b, c, d, e], _ => simp [results, h, resV]

theorem resAV_R {w0 : World} {A0 A : Nat → Prop} {ρ : Rho} {s : AState} {a : Act} {w : World} (h : St w0 A0 A ρ s a w) (ts : List Tmp) : R ρ A w (resV ts a.tmps) (resAV ts s) := by
  have key : ∀ ts : List Tmp, R ρ A w (.tuple (ts.map fun t => a.tmps.getD t undef).toArray) (.tup (ts.map fun t => s.tmps.getD t .junk)) := fun ts => by
    refine .tup _ _ (by simp) fun i x hx => ?_
    rw [List.getElem?_map, Option.map_eq_some_iff] at hx
    obtain ⟨t, ht, rfl⟩ := hx
    have : (ts.map fun t => a.tmps.getD t undef).toArray.getD i undef = a.tmps.getD t undef := by
      simp [ht]
    rw [this]
    exact h.tmps t
  unfold resV resAV
  match ts with
  | [] => exact key []
  | [t] => exact h.tmps t
  | a :: b :: l => exact key (a :: b :: l)

theorem St.begin {A : Nat → Prop} {w : World} {vs : Array Value} {args : List AV} {n : Nat} (hA : ∀ b, A b → b < w.heap.size) (hl : vs.size = args.length) (h : ∀ i x, args[i]? = some x → R noRho A w (vs.getD i undef) x) :
    St w A A noRho (begin n args) { tmps := vs ++ Array.replicate (n - vs.size) undef, defers := [] } w := by
  refine ⟨rfl, by simp [AM.begin, hl], fun i => ?_, .refl _ _, hA, fun b hb => .inl hb, fun b hb => hb, fun d o b h => (by cases h), fun d d' o o' b h => (by cases h), fun d => ?_⟩
  · simp only [AM.begin]
    rcases Nat.lt_or_ge i args.length with hi | hi
    · have e1 : (vs ++ Array.replicate (n - vs.size) undef).getD i undef = vs.getD i undef := by
        simp [Array.getElem?_append, hl, hi]
      have e2 : (args ++ List.replicate (n - args.length) AV.junk).getD i .junk = args[i] := by
        simp [List.getElem?_append, hi]
      rw [e1, e2]
      exact h i _ (List.getElem?_eq_getElem hi)
    · have e2 : (args ++ List.replicate (n - args.length) AV.junk).getD i .junk = .junk := by
        rw [List.getD_eq_getElem?_getD, List.getElem?_append_right hi, List.getElem?_replicate]
        split <;> rfl
      rw [e2]; exact .junk _
  · have : (AM.begin n args).obj d = none := by
      simp only [AM.begin, AState.obj, List.getD_eq_getElem?_getD, List.getElem?_replicate]
      split <;> rfl
    rw [this]; trivial

/-- A function's law out of its body's. -/
theorem Pure.of {P : Program} {f : FuncId} {fn : Func} {c : Code} {args : List AV} {r : AV} (hf : P.funcs[f]? = some fn) (hb : fn.body = some c) (hg : (fn.name == "runtime.NumGoroutine") = false) (ts : List Tmp)
    (hts : fn.results = (ts.map .tmp).toArray) (hl : ts.length ≤ 5) (hr : r.ments = []) (h : Holds P c (begin fn.ntmps args) (finQ ts r)) : Pure P f args r := by
  refine ⟨hr, ⟨fn, hf, hg, by rw [hb]; rfl⟩, fun A w vs hA hvl hv => calls_of_wp hf hb (Go.wp_mono (h.run w A _ w ⟨A, noRho, St.begin hA hvl hv⟩) fun e a w' hq => ?_)⟩
  obtain ⟨s', hq, A1, ρ, hs⟩ := hq
  have key : Fin ts r s' → a.defers = [] ∧ ∃ v, (results fn a.tmps).run P w' = .ok v w' ∧ ∃ v', Ending.returned v = .returned v' ∧ R noRho (fun b => A b ∨ (w.heap.size ≤ b ∧ b < w'.heap.size)) w' v' r ∧ Below w.heap.size w w' := fun hfin => by
    refine ⟨hs.defers, _, resultsV hts hl, _, rfl, ?_, hs.below⟩
    have hle : ∀ b, A1 b → (A b ∨ (w.heap.size ≤ b ∧ b < w'.heap.size)) := fun b hb => by
      rcases hs.orig b hb with h1 | h1
      · exact .inl h1
      · exact .inr ⟨h1, hs.bound b hb⟩
    have := close_R hs (A' := fun b => A b ∨ (w.heap.size ≤ b ∧ b < w'.heap.size)) hle 5 ((resAV_R hs ts).mono hle (fun _ _ => rfl) (fun _ _ => rfl)) hfin.need (fun d _ o b hsome hro hbo => by
      have h1 := hs.objs d
      cases hob : s'.obj d with
      | none => rw [hob] at hsome; cases hsome
      | some ob =>
        rw [hob] at h1
        obtain ⟨o', ho', hok⟩ := h1
        rw [hro] at ho'; cases ho'
        refine .inr ⟨?_, hs.rbound d o b hro hbo⟩
        cases o with
        | box b' => cases hbo; exact hok.2.1
        | fix b' n cap => cases hbo; exact hok.2.2.2.1
        | row u n =>
          obtain ⟨_, ⟨vs, h1, _⟩, _⟩ := hok
          rcases h1.2 with ⟨rfl, _⟩ | ⟨g, cap, cur, rfl, h2, _⟩
          · cases hbo
          · cases hbo; exact h2)
    rw [hfin.close] at this
    exact this.mono (fun _ h => h) (fun _ _ => rfl) (fun d hd => by rw [hr] at hd; cases hd)
  cases e with
  | normal => exact key hq
  | ret => exact key hq
  | exit id => exact hq.elim
  | goto l => exact hq.elim
  | panic c => exact hq.elim
  | outgrown => exact hq.elim

end Go.Proofs.Ytefbgdnobnemkaa.AM
