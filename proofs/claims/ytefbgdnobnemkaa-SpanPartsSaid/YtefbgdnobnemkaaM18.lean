/-
  What an abstract operation depends on, and what it mentions.
-/
import Derived.Test.YtefbgdnobnemkaaM17
namespace Go.Proofs.Ytefbgdnobnemkaa.AM
open Go Go.RowKit

/-- It depends on the objects that its operands mention alone. -/
theorem aload_local {ti : TI} {v : AV} {ob ob' : Nat → Option Obj} (h : ∀ d ∈ v.ments, ob d = ob' d) : aload ti v ob = aload ti v ob' := by
  cases v <;> simp_all [aload, AV.ments]

theorem astore_local {ti : TI} {v x : AV} {ob ob' : Nat → Option Obj} (h : ∀ d ∈ v.ments, ob d = ob' d) : astore ti v x ob = astore ti v x ob' := by
  cases v <;> simp_all [astore, AV.ments]

theorem isBox_local {ob ob' : Nat → Option Obj} {d : Nat} (h : ob d = ob' d) : isBox ob d = isBox ob' d := by
  simp [isBox, h]

theorem afield_local {ti : TI} {v : AV} {f : Nat} {ob ob' : Nat → Option Obj} (h : ∀ d ∈ v.ments, ob d = ob' d) : afield ti v f ob = afield ti v f ob' := by
  cases v <;> simp_all [afield, AV.ments]
  rename_i d off
  simp [isBox_local (ob := ob) (ob' := ob') h]

theorem aindexAddr_local {ti : TI} {esz : Nat} {v i : AV} {ob ob' : Nat → Option Obj} (h : ∀ d ∈ v.ments, ob d = ob' d) : aindexAddr ti esz v i ob = aindexAddr ti esz v i ob' := by
  cases i <;> try rfl
  unfold aindexAddr
  generalize ti.k = k
  cases k <;> cases v <;> try rfl
  · rename_i d m
    simp only [h d (by simp [AV.ments])]
  · rename_i d off
    simp only [isBox_local (ob := ob) (ob' := ob') (h d (by simp [AV.ments]))]

theorem aslice_local {ti : TI} {esz : Nat} {v : AV} {lo hi : Option AV} {ob ob' : Nat → Option Obj} (h : ∀ d ∈ v.ments, ob d = ob' d) : aslice ti esz v lo hi ob = aslice ti esz v lo hi ob' := by
  unfold aslice
  generalize bnd lo = l
  generalize bnd hi = q
  generalize ti.k = k
  cases l <;> cases q <;> try rfl
  cases k <;> cases v <;> try rfl
  rename_i d m
  simp only [h d (by simp [AV.ments])]

theorem alenO_local {v : AV} {ob ob' : Nat → Option Obj} (h : ∀ d ∈ v.ments, ob d = ob' d) : alenO v ob = alenO v ob' := by
  cases v <;> simp_all [alenO, AV.ments]

theorem acont_local {v : AV} {ob ob' : Nat → Option Obj} (h : ∀ d ∈ v.ments, ob d = ob' d) : acont v ob = acont v ob' := by
  cases v <;> simp_all [acont, AV.ments]

theorem aappend_local {e esz bytes dst : Nat} {b x : AV} {ob ob' : Nat → Option Obj} (h : ∀ d ∈ b.ments, ob d = ob' d) (h2 : ∀ d ∈ x.ments, ob d = ob' d) : aappend e esz bytes dst b x ob = aappend e esz bytes dst b x ob' := by
  unfold aappend
  rw [acont_local h2]
  cases b <;> try rfl
  rename_i d n
  simp only [h d (by simp [AV.ments])]

theorem aconv_local {tab : Tab} {dst : Option Nat} {src t : TypeId} {x : AV} {ob ob' : Nat → Option Obj} (h : ∀ d ∈ x.ments, ob d = ob' d) : aconv tab dst src t x ob = aconv tab dst src t x ob' := by
  unfold aconv
  generalize tab src = s1
  generalize tab t = s2
  cases s1 <;> cases s2 <;> try rfl
  rename_i a b
  simp only
  generalize a.k = k1
  generalize b.k = k2
  cases k1 <;> cases k2 <;> cases x <;> try rfl
  · rename_i e d n
    rcases d with _ | _ | d <;> rfl
  · rename_i e d n
    simp only [h d (by simp [AV.ments])]

theorem abuiltin_local {tab : Tab} {dst : Option Nat} {b : Builtin} {ts : List TypeId} {args : List AV} {ob ob' : Nat → Option Obj} (h : ∀ x ∈ args, ∀ d ∈ x.ments, ob d = ob' d) : abuiltin tab dst b ts args ob = abuiltin tab dst b ts args ob' := by
  unfold abuiltin
  split
  · rename_i t _ x xs
    have e := alenO_local (h x (by simp))
    cases Option.map TI.k (tab t) with
    | none => rfl
    | some k => cases k <;> cases x <;> first | rfl | exact e
  · rfl
  · rfl
  · rename_i x y
    have e : ∀ a b c d, aappend a b c d x y ob = aappend a b c d x y ob' := fun _ _ _ _ => aappend_local (h x (by simp)) (h y (by simp))
    simp only [e]
  · rfl

/-- It depends on its operands' values, and on the objects that they mention. -/
theorem aop_local {eq2 : TypeId → Bool} {tab : Tab} {o : Oper} {ev ev' : Operand → AV} {ob ob' : Nat → Option Obj} (h1 : ∀ x ∈ o.op.operands, ev' x = ev x) (h2 : ∀ x ∈ o.op.operands, ∀ d ∈ (ev x).ments, ob' d = ob d) :
    aop eq2 tab o ev' ob' = aop eq2 tab o ev ob := by
  unfold aop
  cases ho : o.op <;> rw [ho] at h1 h2 <;> simp only [Op.operands] at h1 h2 <;> try rfl
  case move x => simp only [h1 x (by simp)]
  case assign x => simp only [h1 x (by simp)]
  case pick c x y => simp only [h1 c (by simp), h1 x (by simp), h1 y (by simp)]
  case box t x => simp only [h1 x (by simp)]
  case build t parts =>
    have e : (parts.toList.map fun p => (p.1, ev' p.2)) = parts.toList.map fun p => (p.1, ev p.2) := List.map_congr_left fun p hp => by rw [h1 p.2 (by simp; exact ⟨p.1, by simpa using hp⟩)]
    simp only [e]
  case buildSlice t len parts =>
    have e : (parts.toList.map fun p => (p.1, ev' p.2)) = parts.toList.map fun p => (p.1, ev p.2) := List.map_congr_left fun p hp => by rw [h1 p.2 (by simp; exact ⟨p.1, by simpa using hp⟩)]
    simp only [e]
  case load t x => simp only [h1 x (by simp)]; cases tab t <;> simp only [aload_local (h2 x (by simp))]
  case store t x y => simp only [h1 x (by simp), h1 y (by simp)]; cases tab t <;> cases o.dst <;> simp only [astore_local (h2 x (by simp))]
  case nilCheck x =>
    simp only [h1 x (by simp)]
    have hx := h2 x (by simp)
    cases hv : ev x <;> try rfl
    rename_i d off
    rw [hv] at hx
    simp only [isBox_local (hx d (by simp [AV.ments]))]
  case binOp op t x y t' => simp only [h1 x (by simp), h1 y (by simp)]
  case unOp op t x => simp only [h1 x (by simp)]
  case convert src t x => simp only [h1 x (by simp), aconv_local (h2 x (by simp))]
  case makeFunc fn first caps =>
    cases fn <;> try rfl
    have e : caps.toList.map ev' = caps.toList.map ev := List.map_congr_left fun p hp => h1 p (by simp at hp ⊢; exact .inr hp)
    simp only [e]
  case makeSlice t l c => simp only [h1 l (by simp), h1 c (by simp)]
  case slice t x lo hi mx =>
    cases mx <;> try rfl
    have e1 : lo.map ev' = lo.map ev := by cases lo <;> simp; exact h1 _ (by simp)
    have e2 : hi.map ev' = hi.map ev := by cases hi <;> simp; exact h1 _ (by simp)
    have e3 : ∀ ti n, aslice ti n (ev x) (lo.map ev) (hi.map ev) ob' = aslice ti n (ev x) (lo.map ev) (hi.map ev) ob := fun _ _ => aslice_local (h2 x (by simp))
    simp only [h1 x (by simp), e1, e2, e3]
  case fieldAddr t x f => simp only [h1 x (by simp), afield_local (h2 x (by simp))]
  case indexAddr t x i => simp only [h1 x (by simp), h1 i (by simp), aindexAddr_local (h2 x (by simp))]
  case index t x i => simp only [h1 x (by simp), h1 i (by simp)]
  case extract x i => simp only [h1 x (by simp)]
  case call c =>
    cases hc : c.callee with
    | value f => simp only [hc]
    | invoke r m => simp only [hc]
    | builtin b =>
      have e : c.args.toList.map ev' = c.args.toList.map ev := List.map_congr_left fun p hp => h1 p (by simp [Call.operands, hc] at hp ⊢; exact hp)
      simp only [hc, e]
      refine abuiltin_local fun x hx => ?_
      simp only [List.mem_map] at hx
      obtain ⟨p, hp, rfl⟩ := hx
      exact h2 p (by simp [Call.operands, hc] at hp ⊢; exact hp)

end Go.Proofs.Ytefbgdnobnemkaa.AM
