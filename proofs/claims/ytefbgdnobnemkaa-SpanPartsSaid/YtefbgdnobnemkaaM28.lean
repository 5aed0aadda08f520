/-
  A function's law out of its body's, where some results are variables that lie in memory.
-/
import Derived.Test.YtefbgdnobnemkaaM27
namespace Go.Proofs.Ytefbgdnobnemkaa.AM
open Go Go.RowKit

theorem okTr_intro {ops : Array Oper} {s : AState} {tr : List (Nat × Foot)} (h : okTr ops s tr = true) : okTr ops s tr = true := h

def resOne (tab : Tab) (s : AState) : ResultVar → Option AV
  | .tmp t => some (s.tmps.getD t .junk)
  | .cell a t => match tab t, s.tmps.getD a .junk with
    | some ti, .ptr d off => match s.obj d with
      | some o => match o.c with
        | .agg cs => match ti.isAgg with
          | true => match Nat.ble (off + ti.size) cs.length with
            | true => some (.agg ((AV.agg cs).sub off ti.size))
            | false => none
          | false => match Nat.blt off cs.length with
            | true => some ((AV.agg cs).get off)
            | false => none
        | _ => none
      | none => none
    | _, _ => none

def resAll (tab : Tab) (s : AState) : List ResultVar → Option (List AV)
  | [] => some []
  | r :: rs => match resOne tab s r, resAll tab s rs with
    | some x, some xs => some (x :: xs)
    | _, _ => none

def resC (tab : Tab) (s : AState) : List ResultVar → Option AV
  | [r] => resOne tab s r
  | rs => (resAll tab s rs).map .tup

/-- What reads as the one reads as the other. -/
structure AVle (x y : AV) : Prop where
  run : ∀ ρ A w v, R ρ A w v x → R ρ A w v y

theorem AVle.refl (x : AV) : AVle x x := ⟨fun _ _ _ _ h => h⟩

/-- A function's end: the result, closed, is this. -/
structure FinC (tab : Tab) (rs : List ResultVar) (r : AV) (s : AState) : Prop where
  run : ∃ x y, resC tab s rs = some x ∧ closeV s.obj 5 x = y ∧ closeP s.obj 5 x ∧ AVle y r

def finC (tab : Tab) (rs : List ResultVar) (r : AV) : Exit → AState → Prop
  | .normal, s => FinC tab rs r s
  | .ret, s => FinC tab rs r s
  | _, _ => False

theorem FinC.mk' {tab : Tab} {rs : List ResultVar} {r r' x : AV} {s : AState} (hx : resC tab s rs = some x) (h : closeV s.obj 5 x = r') (hc : closeP s.obj 5 x) (hr : r' = r) : FinC tab rs r s := ⟨x, r', hx, h, hc, hr ▸ AVle.refl r'⟩

def rvRun (tmps : Array Value) : ResultVar → Sem Value
  | .tmp t => pure (tmps.getD t undef)
  | .cell a t => do loadVar t (← asAddr (tmps.getD a undef))

theorem results_eq (fn : Func) (tmps : Array Value) : results fn tmps = (do
  let vs ← fn.results.mapM (rvRun tmps)
  pure (if h : vs.size = 1 then vs[0] else .tuple vs)) := by
  unfold results
  congr 1

section
variable {P : Program} {tab : Tab} {w0 : World} {A0 A : Nat → Prop} {ρ : Rho} {s : AState} {a : Act} {w : World}

theorem resOne_R (hT : TabOk P tab) (h : St w0 A0 A ρ s a w) {r : ResultVar} {x : AV} (hx : resOne tab s r = some x) : ∃ v, (rvRun a.tmps r).run P w = .ok v w ∧ R ρ A w v x := by
  cases r with
  | tmp t =>
    simp only [resOne, Option.some.injEq] at hx
    subst hx
    exact ⟨_, by simp [rvRun], h.tmps t⟩
  | cell t ty =>
    simp only [resOne] at hx
    split at hx
    · rename_i ti d off h1 hm
      split at hx
      · rename_i ob hob
        split at hx
        · rename_i cs hcs
          obtain ⟨b, ob', cs', hob', hcs', hro, hok⟩ := h.box (d := d) (by simp [isBox, hob, hcs])
          rw [hob] at hob'; cases hob'
          have r1 := R.ptr_inv (hm ▸ h.tmps t : R ρ A w (a.tmps.getD t undef) _) hro
          have hc : ∀ i y, (AV.agg cs).cell? i = some y → ∃ v, w.cell? ⟨b, i, none⟩ = some v ∧ v.oneCell' = true ∧ R ρ A w v y := fun i y hy => by
            rw [← hcs] at hy
            exact (hok.2.2.2.2.2 i y hy).2
          have hg := run_isAgg' (hT ty ti h1) w
          have hs := run_sizeOf' (hT ty ti h1) w
          have hrun : ∀ {v : Value}, (loadVar ty ⟨b, off, none⟩).run P w = .ok v w → (rvRun a.tmps (.cell t ty)).run P w = .ok v w := fun hl => by
            have : (asAddr (a.tmps.getD t undef)).run P w = .ok ⟨b, off, none⟩ w := by rw [r1]; simp [asAddr]
            simp only [rvRun, Sem.run_bind, this, Result.andThen_ok]
            exact hl
          split at hx
          · rename_i hag
            rw [hag] at hg
            split at hx
            · rename_i hle
              cases hx
              have hle' := Nat.le_of_ble_eq_true hle
              have hcell : ∀ j, j < ti.size → ∃ v, w.cell? ⟨b, off + j, none⟩ = some v ∧ v.oneCell' = true ∧ R ρ A w v ((AV.agg cs).get (off + j)) := fun j hj => hc _ _ (AV.cell?_get (by simp only [AV.ncells]; omega))
              have hl : (loadCells ⟨b, off, none⟩ ti.size).run P w = .ok ((List.range ti.size).map fun j => (w.cell? ⟨b, off + j, none⟩).getD undef).toArray w := by
                refine run_loadCells w _ ti.size _ fun j hj => ?_
                obtain ⟨v, hv, _⟩ := hcell j hj
                rw [Addr.add_lit, hv]; rfl
              refine ⟨.agg ((List.range ti.size).map fun j => (w.cell? ⟨b, off + j, none⟩).getD undef).toArray, hrun ?_, .agg _ _ (by simp [AV.sub]) (fun i y hy => ?_) (fun i hi => ?_)⟩
              · simp [loadVar, hg, hs, hl]
              · simp only [AV.sub, List.getElem?_map, Option.map_eq_some_iff] at hy
                obtain ⟨j, hj, rfl⟩ := hy
                have hi := (List.getElem?_eq_some_iff.1 hj).1
                simp at hi
                rw [List.getElem?_range hi] at hj; cases hj
                obtain ⟨v, hv, _, hR⟩ := hcell i hi
                simpa [Array.getD_eq_getD_getElem?, List.getElem?_range hi, hi, hv] using hR
              · simp [AV.sub] at hi
                obtain ⟨v, hv, h1, _⟩ := hcell i hi
                simpa [Array.getD_eq_getD_getElem?, List.getElem?_range hi, hi, hv] using h1
            · cases hx
          · rename_i hag
            rw [hag] at hg
            split at hx
            · rename_i hlt
              cases hx
              have hlt' := Nat.le_of_ble_eq_true hlt
              obtain ⟨v, hv2, _, hR⟩ := hc _ _ (AV.cell?_get (c := .agg cs) (i := off) (by simp only [AV.ncells]; omega))
              exact ⟨v, hrun (by simp [loadVar, hg, hv2]), hR⟩
            · cases hx
        · cases hx
      · cases hx
    · cases hx

theorem resC_R (hT : TabOk P tab) (h : St w0 A0 A ρ s a w) {fn : Func} {rs : List ResultVar} (hrs : fn.results = rs.toArray) (hl : rs.length ≤ 4) {x : AV} (hx : resC tab s rs = some x) :
    ∃ v, (results fn a.tmps).run P w = .ok v w ∧ R ρ A w v x := by
  have two : ∀ {l : List ResultVar} {xs : List AV}, resAll tab s l = some xs → ∃ vs : List Value, vs.length = l.length ∧ xs.length = l.length ∧ (∀ (i : Nat) (r : ResultVar) (v : Value), l[i]? = some r → vs[i]? = some v → (rvRun a.tmps r).run P w = .ok v w) ∧ ∀ (i : Nat) (x : AV), xs[i]? = some x → ∃ v, vs[i]? = some v ∧ R ρ A w v x := by
    intro l
    induction l with
    | nil => intro xs hx; cases hx; exact ⟨[], rfl, rfl, by simp, by simp⟩
    | cons r l ih =>
      intro xs hx
      simp only [resAll] at hx
      split at hx
      · rename_i y ys h1 h2
        cases hx
        obtain ⟨v, hv, hR⟩ := resOne_R hT h h1
        obtain ⟨vs, i1, i2, i3, i4⟩ := ih h2
        refine ⟨v :: vs, by simp [i1], by simp [i2], fun i r' v' hr hv' => ?_, fun i x' hx' => ?_⟩
        · cases i with
          | zero => simp at hr hv'; subst hr; subst hv'; exact hv
          | succ i => exact i3 i r' v' (by simpa using hr) (by simpa using hv')
        · cases i with
          | zero => simp at hx'; subst hx'; exact ⟨v, by simp, hR⟩
          | succ i => simpa using i4 i x' (by simpa using hx')
      · cases hx
  have tup : ∀ {l : List ResultVar} {xs : List AV} {vs : List Value}, vs.length = l.length → xs.length = l.length → (∀ (i : Nat) (x : AV), xs[i]? = some x → ∃ v, vs[i]? = some v ∧ R ρ A w v x) → R ρ A w (.tuple vs.toArray) (.tup xs) := by
    intro l xs vs h1 h2 h3
    refine .tup _ _ (by simp [h1, h2]) fun i x hx => ?_
    obtain ⟨v, hv, hR⟩ := h3 i x hx
    have : vs.toArray.getD i undef = v := by simp [hv]
    rw [this]; exact hR
  rw [results_eq]
  match rs, hl with
  | [r], _ =>
    obtain ⟨v, hv, hR⟩ := resOne_R hT h hx
    exact ⟨v, by simp [hrs, hv], hR⟩
  | [], _ =>
    simp only [resC, resAll, Option.map_some, Option.some.injEq] at hx
    subst hx
    exact ⟨.tuple #[], by simp [hrs], .tup _ _ rfl (by simp)⟩
  | [r1, r2], _ =>
    simp only [resC, Option.map_eq_some_iff] at hx
    obtain ⟨xs, hxs, rfl⟩ := hx
    obtain ⟨vs, h1, h2, h3, h4⟩ := two hxs
    match vs, h1, h3, h4 with
    | [v1, v2], h1, h3, h4 => exact ⟨.tuple #[v1, v2], by simp [hrs, h3 0 r1 v1 rfl rfl, h3 1 r2 v2 rfl rfl], tup (l := [r1, r2]) h1 h2 h4⟩
  | [r1, r2, r3], _ =>
    simp only [resC, Option.map_eq_some_iff] at hx
    obtain ⟨xs, hxs, rfl⟩ := hx
    obtain ⟨vs, h1, h2, h3, h4⟩ := two hxs
    match vs, h1, h3, h4 with
    | [v1, v2, v3], h1, h3, h4 => exact ⟨.tuple #[v1, v2, v3], by simp [hrs, h3 0 r1 v1 rfl rfl, h3 1 r2 v2 rfl rfl, h3 2 r3 v3 rfl rfl], tup (l := [r1, r2, r3]) h1 h2 h4⟩
  | [r1, r2, r3, r4], _ =>
    simp only [resC, Option.map_eq_some_iff] at hx
    obtain ⟨xs, hxs, rfl⟩ := hx
    obtain ⟨vs, h1, h2, h3, h4⟩ := two hxs
    match vs, h1, h3, h4 with
    | [v1, v2, v3, v4], h1, h3, h4 => exact ⟨.tuple #[v1, v2, v3, v4], by simp [hrs, h3 0 r1 v1 rfl rfl, h3 1 r2 v2 rfl rfl, h3 2 r3 v3 rfl rfl, h3 3 r4 v4 rfl rfl], tup (l := [r1, r2, r3, r4]) h1 h2 h4⟩

/-- A function's law out of its body's. -/
theorem Pure.ofC (hT : TabOk P tab) {f : FuncId} {fn : Func} {c : Code} {args : List AV} {r : AV} (hf : P.funcs[f]? = some fn) (hb : fn.body = some c) (hg : (fn.name == "runtime.NumGoroutine") = false) (rs : List ResultVar)
    (hrs : fn.results = rs.toArray) (hl : rs.length ≤ 4) (hr : r.ments = []) (h : Holds P c (begin fn.ntmps args) (finC tab rs r)) : Pure P f args r := by
  refine ⟨hr, ⟨fn, hf, hg, by rw [hb]; rfl⟩, fun A w vs hA hvl hv => calls_of_wp hf hb (Go.wp_mono (h.run w A _ w ⟨A, noRho, St.begin hA hvl hv⟩) fun e a w' hq => ?_)⟩
  obtain ⟨s', hq, A1, ρ, hs⟩ := hq
  have key : FinC tab rs r s' → a.defers = [] ∧ ∃ v, (results fn a.tmps).run P w' = .ok v w' ∧ ∃ v', Ending.returned v = .returned v' ∧ R noRho (fun b => A b ∨ (w.heap.size ≤ b ∧ b < w'.heap.size)) w' v' r ∧ Below w.heap.size w w' := fun hfin => by
    obtain ⟨x, y, hx, hclose, hneed, hle'⟩ := hfin.run
    obtain ⟨v, hv, hvR⟩ := resC_R hT hs hrs hl hx
    refine ⟨hs.defers, v, hv, v, rfl, ?_, hs.below⟩
    have hle : ∀ b, A1 b → (A b ∨ (w.heap.size ≤ b ∧ b < w'.heap.size)) := fun b hb => by
      rcases hs.orig b hb with h1 | h1
      · exact .inl h1
      · exact .inr ⟨h1, hs.bound b hb⟩
    have := close_R hs (A' := fun b => A b ∨ (w.heap.size ≤ b ∧ b < w'.heap.size)) hle 5 (hvR.mono hle (fun _ _ => rfl) (fun _ _ => rfl)) hneed (fun d _ o b hsome hro hbo => by
      have h1 := hs.objs d
      cases hob : s'.obj d with
      | none => rw [hob] at hsome; cases hsome
      | some ob =>
        rw [hob] at h1
        obtain ⟨o', ho', hok⟩ := h1
        rw [hro] at ho'; cases ho'
        refine .inr ⟨?_, hs.rbound d o b hro hbo⟩
        cases o with
        | box b' => cases hbo; exact hok.2.1
        | fix b' n cap => cases hbo; exact hok.2.2.2.1
        | row u n =>
          obtain ⟨_, ⟨vs, h1, _⟩, _⟩ := hok
          rcases h1.2 with ⟨rfl, _⟩ | ⟨g, cap, cur, rfl, h2, _⟩
          · cases hbo
          · cases hbo; exact h2)
    rw [hclose] at this
    exact (hle'.run _ _ _ _ this).mono (fun _ h => h) (fun _ _ => rfl) (fun d hd => by rw [hr] at hd; cases hd)
  cases e with
  | normal => exact key hq
  | ret => exact key hq
  | exit id => exact hq.elim
  | goto l => exact hq.elim
  | panic c => exact hq.elim
  | outgrown => exact hq.elim

end
end Go.Proofs.Ytefbgdnobnemkaa.AM
