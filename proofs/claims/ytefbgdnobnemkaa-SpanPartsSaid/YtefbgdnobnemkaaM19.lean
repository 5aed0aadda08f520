/-
  What is in no slot and in no object comes into none by an operation.
-/
import Derived.Test.YtefbgdnobnemkaaM18
namespace Go.Proofs.Ytefbgdnobnemkaa.AM
open Go Go.RowKit

theorem get_ments {c : AV} {i d : Nat} (h : d ∈ (c.get i).ments) : d ∈ c.ments := by
  rcases Nat.lt_or_ge i c.ncells with hi | hi
  · exact AV.cell?_ments (AV.cell?_get hi) h
  · cases c <;> simp_all [AV.get, AV.ments, AV.ncells, List.getD_eq_getElem?_getD]

theorem sub_ments {c : AV} {off k d : Nat} (h : d ∈ mentsL (c.sub off k)) : d ∈ c.ments := by
  obtain ⟨i, x, hx, hd⟩ := mentsL_of h
  simp only [AV.sub, List.getElem?_map, Option.map_eq_some_iff] at hx
  obtain ⟨j, _, rfl⟩ := hx
  exact get_ments hd

theorem cut_ments {sz : Nat} {cs : List AV} {l h : Option Nat} {d : Nat} (hd : d ∈ ((AV.slG sz cs).cut l h).ments) : d ∈ mentsL cs := by
  simp only [AV.cut, AV.ments] at hd
  obtain ⟨i, x, hx, hdx⟩ := mentsL_of hd
  have hm : x ∈ cs := by
    have hm := List.mem_of_getElem? hx
    cases l <;> cases h <;> simp only [cutL, Option.map_none, Option.map_some] at hm
    · exact hm
    · exact List.mem_of_mem_take hm
    · exact List.mem_of_mem_drop hm
    · exact List.mem_of_mem_take (List.mem_of_mem_drop hm)
  obtain ⟨j, hj⟩ := List.getElem?_of_mem hm
  exact mem_mentsL hj hdx

theorem setAt_ments {c c' : AV} {off d : Nat} {xs : List AV} (h : c.setAt off xs = some c') (hd : d ∈ c'.ments) : d ∈ c.ments ∨ d ∈ mentsL xs := by
  have key : ∀ (cs : List AV), d ∈ mentsL (setL cs off xs) → d ∈ mentsL cs ∨ d ∈ mentsL xs := by
    intro cs hd
    obtain ⟨i, x, hx, hdx⟩ := mentsL_of hd
    rw [setL_getElem?] at hx
    split at hx
    · exact .inr (mem_mentsL hx hdx)
    · exact .inl (mem_mentsL hx hdx)
  unfold AV.setAt at h
  split at h
  · cases h; simp only [AV.ments] at hd ⊢; exact key _ hd
  · cases h; simp only [AV.ments] at hd ⊢; exact key _ hd
  · cases h; simp [AV.ments] at hd
  · cases h; simp [AV.ments] at hd
  · cases h

theorem toRow_ments {k : TK} {sz d : Nat} {cells : List AV} {c : AV} (h : toRow k sz cells = some c) (hd : d ∈ c.ments) : d ∈ mentsL cells := by
  unfold toRow at h
  split at h
  · rw [Option.map_eq_some_iff] at h
    obtain ⟨ls, _, rfl⟩ := h
    simp [AV.ments] at hd
  · split at h
    · cases h
    · cases h; exact hd

theorem cellsOf_ments' {x : AV} {cs : List AV} {d : Nat} (hc : x.cellsOf = some cs) (hd : d ∈ mentsL cs) : d ∈ x.ments := by
  obtain ⟨i, y, hy, hdy⟩ := mentsL_of hd
  exact cellsOf_ments hc hy hdy

theorem cat_ments {c c2 c' : AV} {d : Nat} (h : c.cat c2 = some c') (hd : d ∈ c'.ments) : d ∈ c.ments ∨ d ∈ c2.ments := by
  unfold AV.cat at h
  split at h
  · cases h; simp [AV.ments] at hd
  · cases h; simp [AV.ments] at hd
  · split at h
    · cases h
      simp only [AV.ments] at hd ⊢
      obtain ⟨i, x, hx, hdx⟩ := mentsL_of hd
      rw [List.getElem?_append] at hx
      split at hx
      · exact .inl (mem_mentsL hx hdx)
      · exact .inr (mem_mentsL hx hdx)
    · cases h
  · cases h

theorem afill_ments {place : Nat → Option (Nat × Nat)} {d : Nat} {parts : List (Nat × AV)} {xs ys : List AV} (h : afill place xs parts = some ys) (hx : d ∉ mentsL xs) (hp : ∀ p ∈ parts, d ∉ p.2.ments) : d ∉ mentsL ys := by
  intro hd
  obtain ⟨i, y, hy, hdy⟩ := mentsL_of hd
  rcases (afill_mem parts h).2 i y hy with h1 | ⟨p, cs, j, hpm, hcs, hj⟩
  · exact hx (mem_mentsL h1 hdy)
  · exact hp p hpm (cellsOf_ments hcs hj hdy)

def NoM (d : Nat) : AOut → Prop
  | .val _ v u n => d ∉ n → d ∉ v.ments ∧ ∀ p ∈ u, p.1 ≠ d ∧ ∀ ob, p.2 = some ob → d ∉ ob.c.ments
  | _ => True

theorem NoM.fail (d : Nat) : NoM d .fail := trivial
theorem NoM.need {d : Nat} {pre : Prop} {v : AV} (h : d ∉ v.ments) : NoM d (.need pre v) := fun _ => ⟨h, fun p hp => by cases hp⟩
theorem NoM.pure {d : Nat} {v : AV} (h : d ∉ v.ments) : NoM d (.pure v) := fun _ => ⟨h, fun p hp => by cases hp⟩
theorem NoM.one {d x : Nat} {pre : Prop} {v : AV} {ob : Obj} {n : List Nat} (h : d ∉ n → d ∉ v.ments ∧ x ≠ d ∧ d ∉ ob.c.ments) : NoM d (.val pre v [(x, some ob)] n) := fun hn => ⟨(h hn).1, fun p hp => by
  simp only [List.mem_singleton] at hp
  subst hp
  exact ⟨(h hn).2.1, fun ob' ho => by cases ho; exact (h hn).2.2⟩⟩

section
variable {d : Nat} {ob : Nat → Option Obj} (hob : ∀ d' o, d' ≠ d → ob d' = some o → d ∉ o.c.ments)
include hob

omit hob in
theorem aread_no {ti : TI} {pre : Prop} {c : AV} {off : Nat} (h : d ∉ c.ments) : NoM d (aread ti pre c off) := by
  unfold aread
  split
  · exact .need fun hd => h (sub_ments hd)
  · exact .need fun hd => h (get_ments hd)

theorem aload_no {ti : TI} {v : AV} (h : d ∉ v.ments) : NoM d (aload ti v ob) := by
  unfold aload
  split
  · rename_i d' off
    split
    · rename_i o ho
      have := hob d' o (fun e => h (by simp [AV.ments, e])) ho
      split
      · rename_i cs hcs; rw [hcs] at this; exact aread_no this
      · exact .fail d
    · exact .fail d
  · exact aread_no (by simpa [AV.ments] using h)
  · rename_i d' n off
    split
    · rename_i o ho
      exact aread_no (hob d' o (fun e => h (by simp [AV.ments, e])) ho)
    · exact .fail d
  · exact .fail d

omit hob in
theorem awrite_no {d' : Nat} {ti : TI} {pre : Prop} {o : Obj} {off : Nat} {x : AV} (hne : d' ≠ d) (ho : d ∉ o.c.ments) (hx : d ∉ x.ments) : NoM d (awrite d' ti pre o off x) := by
  unfold awrite
  split
  · rename_i cs _ hcs
    split
    · rename_i c' _ hset
      refine .one fun _ => ⟨by simp [AV.ments], hne, fun hd => ?_⟩
      rcases setAt_ments hset hd with h1 | h1
      · exact ho h1
      · exact hx (cellsOf_ments' hcs h1)
    · exact .fail d
  · exact .fail d

theorem astore_no {ti : TI} {v x : AV} (h : d ∉ v.ments) (hx : d ∉ x.ments) : NoM d (astore ti v x ob) := by
  unfold astore
  split
  · rename_i d' off
    have hne : d' ≠ d := fun e => h (by simp [AV.ments, e])
    split
    · rename_i o ho
      split
      · exact awrite_no hne (hob d' o hne ho) hx
      · exact .fail d
    · exact .fail d
  · rename_i d' n off
    have hne : d' ≠ d := fun e => h (by simp [AV.ments, e])
    split
    · rename_i o ho; exact awrite_no hne (hob d' o hne ho) hx
    · exact .fail d
  · exact .fail d

omit hob in
theorem afield_no {ti : TI} {v : AV} {f : Nat} (h : d ∉ v.ments) : NoM d (afield ti v f ob) := by
  unfold afield
  split
  · split
    · split
      · exact .pure (by simpa [AV.ments] using h)
      · exact .fail d
    · exact .pure (by simpa [AV.ments] using h)
    · split
      · exact .need (by simpa [AV.ments] using h)
      · exact .fail d
    · exact .fail d
  · exact .fail d

omit hob in
theorem aindexAddr_no {ti : TI} {esz : Nat} {v i : AV} (h : d ∉ v.ments) : NoM d (aindexAddr ti esz v i ob) := by
  unfold aindexAddr
  split
  · split
    · split
      · split
        · exact .need (by simpa [AV.ments] using h)
        · exact .fail d
      · exact .fail d
    · split
      · exact .need (by simp [AV.ments])
      · exact .fail d
    · split
      · exact .need (by simp [AV.ments])
      · exact .fail d
    · split
      · exact .need (by simpa [AV.ments] using h)
      · exact .fail d
    · split
      · exact .need (by simpa [AV.ments] using h)
      · exact .fail d
    · exact .fail d
  · exact .fail d

omit hob in
theorem aindex_no {ti : TI} {esz : Nat} {v i : AV} (h : d ∉ v.ments) : NoM d (aindex ti esz v i) := by
  unfold aindex
  split
  · rename_i n
    split
    · exact .need (by simp [AV.ments])
    · rename_i cs _
      split
      · refine .need fun hd => h ?_
        have : d ∈ ((AV.agg cs).get n.toNat).ments := hd
        exact get_ments this
      · exact .fail d
    · exact .fail d
  · exact .fail d

theorem aslice_no {ti : TI} {esz : Nat} {v : AV} {lo hi : Option AV} (h : d ∉ v.ments) : NoM d (aslice ti esz v lo hi ob) := by
  unfold aslice
  split
  · split
    · exact .need (by simp [AV.ments])
    · split
      · exact .need (by simp [AV.ments])
      · exact .fail d
    · split
      · exact .need (by simp [AV.ments])
      · exact .fail d
    · split
      · exact .need fun hd => h (cut_ments hd)
      · exact .fail d
    · exact .need (by simp [AV.ments])
    · rename_i d' m _
      have hne : d' ≠ d := fun e => h (by simp [AV.ments, e])
      split
      · rename_i o ho
        split
        · split
          · exact .one fun _ => ⟨by simp [AV.ments], hne, hob d' o hne ho⟩
          · exact .fail d
        · exact .fail d
      · exact .fail d
    · exact .fail d
  · exact .fail d

omit hob in
theorem alen_no {v : AV} : NoM d (alen v) := by
  unfold alen
  split <;> first | exact .pure (by simp [AV.ments]) | exact .need (by simp [AV.ments]) | exact .fail d

omit hob in
theorem alenO_no {v : AV} : NoM d (alenO v ob) := by
  unfold alenO
  split
  · split
    · exact .need (by simp [AV.ments])
    · exact .fail d
  · exact alen_no

omit hob in
theorem abin_no {eq2 : TypeId → Bool} {isb : Bool} {op : BinOp} {t : TypeId} {x y : AV} : NoM d (abin eq2 isb op t x y) := by
  unfold abin
  split
  · split
    · unfold aint
      split <;> first | exact .need (by simp [AV.ments]) | trivial
    · exact .fail d
  · split <;> first | exact .need (by simp [AV.ments]) | trivial
  · split <;> trivial
  · split <;> trivial
  · exact .fail d

omit hob in
theorem aun_no {op : UnOp} {x : AV} : NoM d (aun op x) := by
  unfold aun
  split
  · exact .pure (by simp [AV.ments])
  · exact .fail d

theorem acont_no {v c : AV} {p : Prop} (h : d ∉ v.ments) (hc : acont v ob = some (p, some c)) : d ∉ c.ments := by
  unfold acont at hc
  split at hc
  · cases hc
  · cases hc; exact h
  · cases hc; exact h
  · cases hc; exact h
  · rename_i d' n
    split at hc
    · rename_i o ho
      cases hc
      exact hob d' o (fun e => h (by simp [AV.ments, e])) ho
    · cases hc
  · cases hc

theorem aappend_no {e esz bytes dst : Nat} {b x : AV} (h : d ∉ b.ments) (hx : d ∉ x.ments) : NoM d (aappend e esz bytes dst b x ob) := by
  unfold aappend
  split
  · split
    · rename_i p c hc
      split
      · exact .one fun hn => ⟨fun hd => hn (by simpa [AV.ments] using hd), fun e => hn (by simp [e]), acont_no hob hx hc⟩
      · exact .fail d
    · exact .need (by simp [AV.ments])
    · exact .fail d
  · rename_i d' n
    have hne : d' ≠ d := fun e => h (by simp [AV.ments, e])
    split
    · rename_i o ho
      split
      · rename_i p c _ _ _ hc
        split
        · rename_i c' _ hcat
          refine .one fun _ => ⟨by simpa [AV.ments] using h, hne, fun hd => ?_⟩
          rcases cat_ments hcat hd with h1 | h1
          · exact hob d' o hne ho h1
          · exact acont_no hob hx hc h1
        · exact .fail d
      · exact .need (by simpa [AV.ments] using h)
      · exact .fail d
    · exact .fail d
  · exact .fail d

omit hob in
theorem aconv_no {tab : Tab} {dst : Option Nat} {src t : TypeId} {x : AV} : NoM d (aconv tab dst src t x ob) := by
  unfold aconv
  (repeat' split) <;> first
    | exact .fail d
    | exact .need (by simp [AV.ments])
    | exact .pure (by simp [AV.ments])
    | (refine .one fun hn => ⟨fun hd => hn (by simpa [AV.ments] using hd), fun e => hn (by simp [e]), by simp [AV.ments]⟩)

omit hob in
theorem amakeSlice_no {tab : Tab} {dst : Option Nat} {t : TypeId} {l c : AV} : NoM d (amakeSlice tab dst t l c) := by
  unfold amakeSlice
  (repeat' split) <;> first
    | exact .fail d
    | (refine .one fun hn => ⟨fun hd => hn (by simpa [AV.ments] using hd), fun e => hn (by simp [e]), by simp [AV.ments]⟩)

omit hob in
theorem amin_no {mx : Bool} {l : List AV} : NoM d (amin mx l) := by
  unfold amin
  (repeat' split) <;> first
    | exact .fail d
    | exact .pure (by simp [AV.ments])

theorem abuiltin_no {tab : Tab} {dst : Option Nat} {b : Builtin} {ts : List TypeId} {args : List AV} (h : ∀ x ∈ args, d ∉ x.ments) : NoM d (abuiltin tab dst b ts args ob) := by
  unfold abuiltin
  split
  · split
    · exact alen_no
    · exact .fail d
    · exact alenO_no
    · exact .fail d
  · exact amin_no
  · exact amin_no
  · rename_i x y
    split
    · split
      · split
        · split
          · exact aappend_no hob (h x (by simp)) (h y (by simp))
          · exact .fail d
        · exact .fail d
      · exact .fail d
    · exact .fail d
  · exact .fail d

omit hob in
theorem abuild_no {tab : Tab} (hz : ∀ t ti, tab t = some ti → d ∉ mentsL ti.zero) {t : TypeId} {parts : List (Nat × AV)} (h : ∀ p ∈ parts, d ∉ p.2.ments) : NoM d (abuild tab t parts) := by
  unfold abuild
  split
  · rename_i ti hti
    split
    · split
      · rename_i cells hf; exact .pure (by simpa [AV.ments] using afill_ments hf (hz t ti hti) h)
      · exact .fail d
    · split
      · split
        · rename_i cells hf; exact .pure (by simpa [AV.ments] using afill_ments hf (hz t ti hti) h)
        · exact .fail d
      · exact .fail d
    · exact .fail d
  · exact .fail d

omit hob in
theorem abuildSlice_no {tab : Tab} (hz : ∀ t ti, tab t = some ti → d ∉ mentsL ti.zero) {dst : Option Nat} {t : TypeId} {len : Nat} {parts : List (Nat × AV)} (h : ∀ p ∈ parts, d ∉ p.2.ments) : NoM d (abuildSlice tab dst t len parts) := by
  unfold abuildSlice
  split
  · split
    · split
      · rename_i ei hei
        split
        · rename_i cells _ _ hf
          split
          · rename_i c hrow
            refine .one fun hn => ⟨fun hd => hn (by simpa [AV.ments] using hd), fun e => hn (by simp [e]), fun hd => ?_⟩
            refine afill_ments hf (fun hm => ?_) h (toRow_ments hrow hd)
            obtain ⟨i, y, hy, hdy⟩ := mentsL_of hm
            rw [List.getElem?_map, Option.map_eq_some_iff] at hy
            obtain ⟨r, _, rfl⟩ := hy
            have : d ∈ ((AV.agg ei.zero).get (r % ei.size)).ments := hdy
            exact hz _ ei hei (by simpa [AV.ments] using get_ments this)
          · exact .fail d
        · exact .fail d
      · exact .fail d
    · exact .fail d
  · exact .fail d

theorem aop_no {eq2 : TypeId → Bool} {tab : Tab} (hz : ∀ t ti, tab t = some ti → d ∉ mentsL ti.zero) {o : Oper} {ev : Operand → AV} (hev : ∀ x, d ∉ (ev x).ments) : NoM d (aop eq2 tab o ev ob) := by
  unfold aop
  split
  · exact .pure (hev _)
  · exact .pure (hev _)
  · split
    · exact .pure (hev _)
    · exact .pure (hev _)
    · exact .fail d
  · split
    · rename_i ti d' hti hd
      exact .one fun hn => ⟨fun h => hn (by simpa [AV.ments] using h), fun e => hn (by simp [e]), by simpa [AV.ments] using hz _ ti hti⟩
    · exact .fail d
  · rename_i t x _
    split
    · rename_i cs d' hcs hd
      exact .one fun hn => ⟨fun h => hn (by simpa [AV.ments] using h), fun e => hn (by simp [e]), fun h => hev x (cellsOf_ments' hcs h)⟩
    · exact .fail d
  · refine abuild_no hz fun p hp => ?_
    simp only [List.mem_map] at hp
    obtain ⟨q, _, rfl⟩ := hp
    exact hev _
  · refine abuildSlice_no hz fun p hp => ?_
    simp only [List.mem_map] at hp
    obtain ⟨q, _, rfl⟩ := hp
    exact hev _
  · split
    · exact aload_no hob (hev _)
    · exact .fail d
  · split
    · exact astore_no hob (hev _) (hev _)
    · exact .fail d
  · rename_i x _
    have := hev x
    split
    · rename_i hx; rw [hx] at this; exact .pure this
    · rename_i hx; rw [hx] at this; exact .pure this
    · rename_i hx
      rw [hx] at this
      split
      · exact .pure this
      · exact .fail d
    · exact .fail d
  · exact abin_no
  · exact aun_no
  · exact aconv_no
  · split
    · refine .pure fun h => ?_
      simp only [AV.ments] at h
      obtain ⟨i, y, hy, hdy⟩ := mentsL_of h
      rw [List.getElem?_map, Option.map_eq_some_iff] at hy
      obtain ⟨q, _, rfl⟩ := hy
      exact hev q hdy
    · exact .fail d
  · exact amakeSlice_no
  · (repeat' split) <;> first | exact aslice_no hob (hev _) | exact .fail d
  · split
    · exact afield_no (hev _)
    · exact .fail d
  · (repeat' split) <;> first | exact aindexAddr_no (hev _) | exact .fail d
  · (repeat' split) <;> first | exact aindex_no (hev _) | exact .fail d
  · rename_i x i _
    have := hev x
    split
    · rename_i vs hx
      rw [hx] at this
      split
      · rename_i v hv
        exact .pure fun h => this (by simpa [AV.ments] using mem_mentsL hv h)
      · exact .fail d
    · exact .fail d
  · split
    · refine abuiltin_no hob fun x hx => ?_
      simp only [List.mem_map] at hx
      obtain ⟨q, _, rfl⟩ := hx
      exact hev q
    · exact .fail d
  · exact .fail d

end
end Go.Proofs.Ytefbgdnobnemkaa.AM
