/-
  All operations of the model together: each does what the abstract machine says.
-/
import Derived.Test.YtefbgdnobnemkaaM16
namespace Go.Proofs.Ytefbgdnobnemkaa.AM
open Go Go.RowKit

/-- No test. -/
def AOut.plain (x : AOut) : Prop := ∀ φ d, x ≠ .test φ d

theorem plain_val (p : Prop) (v : AV) (u : List (Nat × Option Obj)) (n : List Nat) : (AOut.val p v u n).plain := fun _ _ h => by cases h
theorem plain_fail : AOut.fail.plain := fun _ _ h => by cases h

theorem aread_plain (ti : TI) (pre : Prop) (c : AV) (off : Nat) : (aread ti pre c off).plain := by
  unfold aread
  (repeat' split) <;> first | exact plain_val _ _ _ _ | exact plain_fail
theorem aload_plain (ti : TI) (v : AV) (ob : Nat → Option Obj) : (aload ti v ob).plain := by
  unfold aload
  (repeat' split) <;> first | exact plain_val _ _ _ _ | exact plain_fail | apply aread_plain
theorem awrite_plain (d : Nat) (ti : TI) (pre : Prop) (o : Obj) (off : Nat) (x : AV) : (awrite d ti pre o off x).plain := by
  unfold awrite
  (repeat' split) <;> first | exact plain_val _ _ _ _ | exact plain_fail | apply aread_plain | apply aload_plain
theorem astore_plain (ti : TI) (v x : AV) (ob : Nat → Option Obj) : (astore ti v x ob).plain := by
  unfold astore
  (repeat' split) <;> first | exact plain_val _ _ _ _ | exact plain_fail | apply aread_plain | apply aload_plain | apply awrite_plain
theorem afield_plain (ti : TI) (v : AV) (f : Nat) (ob : Nat → Option Obj) : (afield ti v f ob).plain := by
  unfold afield
  (repeat' split) <;> first | exact plain_val _ _ _ _ | exact plain_fail | apply aread_plain | apply aload_plain | apply awrite_plain | apply astore_plain
theorem aindexAddr_plain (ti : TI) (esz : Nat) (v i : AV) (ob : Nat → Option Obj) : (aindexAddr ti esz v i ob).plain := by
  unfold aindexAddr
  (repeat' split) <;> first | exact plain_val _ _ _ _ | exact plain_fail | apply aread_plain | apply aload_plain | apply awrite_plain | apply astore_plain | apply afield_plain
theorem aindex_plain (ti : TI) (esz : Nat) (v i : AV) : (aindex ti esz v i).plain := by
  unfold aindex
  (repeat' split) <;> first | exact plain_val _ _ _ _ | exact plain_fail | apply aread_plain | apply aload_plain | apply awrite_plain | apply astore_plain | apply afield_plain | apply aindexAddr_plain
theorem aslice_plain (ti : TI) (esz : Nat) (v : AV) (lo hi : Option AV) (ob : Nat → Option Obj) : (aslice ti esz v lo hi ob).plain := by
  unfold aslice
  (repeat' split) <;> first | exact plain_val _ _ _ _ | exact plain_fail | apply aread_plain | apply aload_plain | apply awrite_plain | apply astore_plain | apply afield_plain | apply aindexAddr_plain | apply aindex_plain
theorem alen_plain (v : AV) : (alen v).plain := by
  unfold alen
  (repeat' split) <;> first | exact plain_val _ _ _ _ | exact plain_fail | apply aread_plain | apply aload_plain | apply awrite_plain | apply astore_plain | apply afield_plain | apply aindexAddr_plain | apply aindex_plain | apply aslice_plain
theorem alenO_plain (v : AV) (ob : Nat → Option Obj) : (alenO v ob).plain := by
  unfold alenO
  (repeat' split) <;> first | exact plain_val _ _ _ _ | exact plain_fail | apply aread_plain | apply aload_plain | apply awrite_plain | apply astore_plain | apply afield_plain | apply aindexAddr_plain | apply aindex_plain | apply aslice_plain | apply alen_plain
theorem aun_plain (op : UnOp) (x : AV) : (aun op x).plain := by
  unfold aun
  (repeat' split) <;> first | exact plain_val _ _ _ _ | exact plain_fail | apply aread_plain | apply aload_plain | apply awrite_plain | apply astore_plain | apply afield_plain | apply aindexAddr_plain | apply aindex_plain | apply aslice_plain | apply alen_plain | apply alenO_plain
theorem aappend_plain (e : TypeId) (esz bytes dst : Nat) (b x : AV) (ob : Nat → Option Obj) : (aappend e esz bytes dst b x ob).plain := by
  unfold aappend
  (repeat' split) <;> first | exact plain_val _ _ _ _ | exact plain_fail | apply aread_plain | apply aload_plain | apply awrite_plain | apply astore_plain | apply afield_plain | apply aindexAddr_plain | apply aindex_plain | apply aslice_plain | apply alen_plain | apply alenO_plain | apply aun_plain
theorem abuild_plain (tab : Tab) (t : TypeId) (parts : List (Nat × AV)) : (abuild tab t parts).plain := by
  unfold abuild
  (repeat' split) <;> first | exact plain_val _ _ _ _ | exact plain_fail | apply aread_plain | apply aload_plain | apply awrite_plain | apply astore_plain | apply afield_plain | apply aindexAddr_plain | apply aindex_plain | apply aslice_plain | apply alen_plain | apply alenO_plain | apply aun_plain | apply aappend_plain
theorem abuildSlice_plain (tab : Tab) (dst : Option Nat) (t : TypeId) (len : Nat) (parts : List (Nat × AV)) : (abuildSlice tab dst t len parts).plain := by
  unfold abuildSlice
  (repeat' split) <;> first | exact plain_val _ _ _ _ | exact plain_fail | apply aread_plain | apply aload_plain | apply awrite_plain | apply astore_plain | apply afield_plain | apply aindexAddr_plain | apply aindex_plain | apply aslice_plain | apply alen_plain | apply alenO_plain | apply aun_plain | apply aappend_plain | apply abuild_plain
theorem aconv_plain (tab : Tab) (dst : Option Nat) (src t : TypeId) (x : AV) (ob : Nat → Option Obj) : (aconv tab dst src t x ob).plain := by
  unfold aconv
  (repeat' split) <;> first | exact plain_val _ _ _ _ | exact plain_fail | apply aread_plain | apply aload_plain | apply awrite_plain | apply astore_plain | apply afield_plain | apply aindexAddr_plain | apply aindex_plain | apply aslice_plain | apply alen_plain | apply alenO_plain | apply aun_plain | apply aappend_plain | apply abuild_plain | apply abuildSlice_plain
theorem amakeSlice_plain (tab : Tab) (dst : Option Nat) (t : TypeId) (l c : AV) : (amakeSlice tab dst t l c).plain := by
  unfold amakeSlice
  (repeat' split) <;> first | exact plain_val _ _ _ _ | exact plain_fail | apply aread_plain | apply aload_plain | apply awrite_plain | apply astore_plain | apply afield_plain | apply aindexAddr_plain | apply aindex_plain | apply aslice_plain | apply alen_plain | apply alenO_plain | apply aun_plain | apply aappend_plain | apply abuild_plain | apply abuildSlice_plain | apply aconv_plain
theorem amin_plain (mx : Bool) (l : List AV) : (amin mx l).plain := by
  unfold amin
  (repeat' split) <;> first | exact plain_val _ _ _ _ | exact plain_fail | apply aread_plain | apply aload_plain | apply awrite_plain | apply astore_plain | apply afield_plain | apply aindexAddr_plain | apply aindex_plain | apply aslice_plain | apply alen_plain | apply alenO_plain | apply aun_plain | apply aappend_plain | apply abuild_plain | apply abuildSlice_plain | apply aconv_plain | apply amakeSlice_plain
theorem abuiltin_plain (tab : Tab) (dst : Option Nat) (b : Builtin) (ts : List TypeId) (args : List AV) (ob : Nat → Option Obj) : (abuiltin tab dst b ts args ob).plain := by
  unfold abuiltin
  (repeat' split) <;> first | exact plain_val _ _ _ _ | exact plain_fail | apply aread_plain | apply aload_plain | apply awrite_plain | apply astore_plain | apply afield_plain | apply aindexAddr_plain | apply aindex_plain | apply aslice_plain | apply alen_plain | apply alenO_plain | apply aun_plain | apply aappend_plain | apply abuild_plain | apply abuildSlice_plain | apply aconv_plain | apply amakeSlice_plain | apply amin_plain

section
variable {P : Program} {tab : Tab} {w0 : World} {A0 A : Nat → Prop} {ρ : Rho} {s : AState} {a : Act} {w : World} {o : Oper}

theorem ok_makeSlice {t : TypeId} {l c : Operand} {pre : Prop} {v : AV} {u : List (Nat × Option Obj)} {n : List Nat} (hT : TabOk P tab) (ho : o.op = .makeSlice t l c) (h : St w0 A0 A ρ s a w) (hf : ∀ d ∈ n, s.fresh d)
    (hx : amakeSlice tab o.dst t (s.ev l) (s.ev c) = .val pre v u n) (hp : pre) : Goes P o a w (Sim w0 A0 (s.app o.dst v u)) := by
  unfold amakeSlice at hx
  split at hx
  · rename_i ti d q m hti hd hl hc
    split at hx
    · rename_i e hk
      split at hx
      · rename_i ei hei
        split at hx
        · rename_i hek hby hsz hzero
          cases hx
          obtain ⟨rfl, hp1, hp2⟩ := hp
          have hut := und_slice (hT t ti hti) hk
          obtain ⟨i, z, hi, hs1, hs2, hs3, hs4, hs5, hs6⟩ := (hT e ei hei).info
          have r1 := (hl ▸ h.ev l : R ρ A w (a.eval l) _).int_inv
          have r2 := (hc ▸ h.ev c : R ρ A w (a.eval c) _).int_inv
          have hz := (hs6 ρ A w 0 (.int .u8 0) (by rw [hzero]; rfl)).1.int_inv
          have hzc : z.cells = #[.int .u8 0] := by
            obtain ⟨zl⟩ : ∃ zl, z.cells.toList = zl := ⟨_, rfl⟩
            rename_i hzl
            have hlen : z.cells.toList.length = 1 := by rw [Array.length_toList, hs4, hsz]
            rw [Array.getD_eq_getD_getElem?, ← Array.getElem?_toList] at hz
            apply Array.ext'
            match hh : z.cells.toList, hlen with
            | [y], _ => rw [hh] at hz; simp at hz; simp [hz]
          have hr := run_make (P := P) w t e i z hut hi hs3 .i64 .i64 q q hp1 (Int.le_refl _) (by rw [hs2, hby]; omega) (by omega)
          rw [hs1, hsz, Nat.mul_one, hzc] at hr
          have hcells : madeCells #[Value.int .u8 0] q.toNat = (List.replicate q.toNat (Value.int .u8 0)).toArray := by
            apply Array.ext'
            apply List.ext_getElem?
            intro j
            simp only [madeCells]
            rcases Nat.lt_or_ge j q.toNat with hj | hj
            · simp [hj, Nat.mod_one]
            · simp [Nat.not_lt.2 hj]
          rw [hcells] at hr
          refine goes_newrow (cells := (List.replicate q.toNat (Value.int .u8 0)).toArray) (xs := List.replicate q.toNat (.int .u8 0)) (sz := 1) h (hf d (by simp)) ?_ ⟨by simp, fun j x hx => ?_⟩ (by simp) (by simp [AV.rowlen]) rfl (fun j x hx => ?_) (by simp [AV.ments]) (by unfold maxLen; omega)
          · simp only [execOp, ho, r1, r2, Sem.run_bind, hr, Result.andThen_ok, Sem.run_pure]
          · have hj := (List.getElem?_eq_some_iff.1 hx).1
            simp at hj
            simp [hj] at hx
            subst hx
            have e1 : (List.replicate q.toNat (Value.int .u8 0)).toArray.getD j undef = .int .u8 0 := by
              simp [Array.getD_eq_getD_getElem?, hj]
            rw [e1]
            exact ⟨rfl, .int _ _⟩
          · have hj := AV.cell?_lt hx
            simp [AV.ncells] at hj
            simp [AV.cell?, hj] at hx ⊢
            exact hx
        · cases hx
      · cases hx
    · cases hx
  · cases hx

theorem op_val {eq2 : TypeId → Bool} {pre : Prop} {v : AV} {u : List (Nat × Option Obj)} {n : List Nat} (hT : TabOk P tab) (h : St w0 A0 A ρ s a w)
    (hx : aop eq2 tab o s.ev s.obj = .val pre v u n) (hp : pre) (hf : ∀ d ∈ n, s.fresh d) : Goes P o a w (Sim w0 A0 (s.app o.dst v u)) := by
  unfold aop at hx
  split at hx
  · rename_i x ho; cases hx; exact ok_move (.inl ho) h
  · rename_i x ho; cases hx; exact ok_move (.inr ho) h
  · rename_i c x y ho
    split at hx
    · rename_i hc; cases hx; exact ok_pick ho h hc
    · rename_i hc; cases hx; exact ok_pick ho h hc
    · cases hx
  · rename_i t ho
    split at hx
    · rename_i ti d hti hd
      cases hx
      exact ok_alloc hT ho hti h (hf d (by simp)) (hT t ti hti).zm
    · cases hx
  · rename_i t x ho
    split at hx
    · rename_i cs d hcs hd
      cases hx
      exact ok_box ho h (hf d (by simp)) hcs
    · cases hx
  · rename_i t parts ho; exact ok_build hT ho h hx
  · rename_i t len parts ho
    have hx0 := hx
    unfold abuildSlice at hx0
    split at hx0
    · rename_i ti d hti hd
      have hn : n = [d] := by
        split at hx0
        · split at hx0
          · split at hx0
            · split at hx0
              · cases hx0; rfl
              · cases hx0
            · cases hx0
          · cases hx0
        · cases hx0
      exact ok_buildSlice hT (fun e ei h => (hT e ei h).sz1) ho h (hf d (by simp [hn])) (hd ▸ hx)
    · cases hx0
  · rename_i t x ho
    split at hx
    · rename_i ti hti; exact ok_load hT ho h hti (hT t ti hti).pos hx hp
    · cases hx
  · rename_i t x y ho
    split at hx
    · rename_i ti hti _; exact ok_store hT ho h hti (hT t ti hti).pos hx hp
    · cases hx
  · rename_i x ho
    split at hx
    · rename_i f cs hx'; cases hx; exact ok_nilCheck ho h (.inl ⟨f, cs, hx'⟩) hx'.symm
    · rename_i c off hx'; cases hx; exact ok_nilCheck ho h (.inr (.inl ⟨c, off, hx'⟩)) hx'.symm
    · rename_i d off hx'
      split at hx
      · rename_i hb; cases hx; exact ok_nilCheck ho h (.inr (.inr ⟨d, off, hx', hb⟩)) hx'.symm
      · cases hx
    · cases hx
  · rename_i op t x y t' ho; exact ok_bin_val ho h hx hp
  · rename_i op t x ho; exact ok_un ho h hx
  · rename_i src t x ho; exact ok_conv hT ho h hf hx hp
  · rename_i f first caps ho
    split at hx
    · rename_i hfi
      cases hx
      have : first = #[] := Array.ext' (by simpa using hfi)
      subst this
      exact ok_makeFunc ho h
    · cases hx
  · rename_i t l c ho; exact ok_makeSlice hT ho h hf hx hp
  · rename_i t x lo hi ho
    split at hx
    · rename_i ti hti
      split at hx
      · rename_i hk; exact ok_slice_str hT ho h hti hk hx hp
      · rename_i e hk
        split at hx
        · rename_i ei hei; exact ok_slice_row hT ho h hti hk hei hx hp
        · cases hx
      · cases hx
    · cases hx
  · rename_i t x f ho
    split at hx
    · rename_i ti hti; exact ok_field hT ho h hti hx hp
    · cases hx
  · rename_i t x i ho
    split at hx
    · rename_i ti hti
      split at hx
      · rename_i e hk
        split at hx
        · rename_i ei hei; exact ok_indexAddr_slice hT ho h hti hk hei hx hp
        · cases hx
      · rename_i m e hk
        split at hx
        · rename_i ei hei; exact ok_indexAddr_array hT ho h hti hk hei hx hp
        · cases hx
      · cases hx
    · cases hx
  · rename_i t x i ho
    split at hx
    · rename_i ti hti
      split at hx
      · rename_i hk; exact ok_index_str hT ho h hti hk hx hp
      · rename_i m e hk
        split at hx
        · rename_i ei hei
          split at hx
          · rename_i hna; exact ok_index_array hT ho h hti hk hei hna hx hp
          · cases hx
        · cases hx
      · cases hx
    · cases hx
  · rename_i x i ho
    split at hx
    · rename_i vs hvs
      split at hx
      · rename_i v' hv; cases hx; exact ok_extract ho h hvs hv
      · cases hx
    · cases hx
  · rename_i c ho
    split at hx
    · rename_i b hc
      unfold abuiltin at hx
      split at hx
      · -- len
        rename_i t ts x xs hts hargs
        have ht : c.argTypes[0]? = some t := by rw [← Array.getElem?_toList, hts]; rfl
        have hx0 : ∃ x0, c.args[0]? = some x0 ∧ s.ev x0 = x := by
          cases hl : c.args.toList with
          | nil => rw [hl] at hargs; simp at hargs
          | cons q r => rw [hl] at hargs; simp at hargs; exact ⟨q, by rw [← Array.getElem?_toList, hl]; rfl, hargs.1⟩
        obtain ⟨x0, ha, rfl⟩ := hx0
        split at hx
        · rename_i l hk hl
          rw [Option.map_eq_some_iff] at hk
          obtain ⟨ti, hti, hk⟩ := hk
          simp only [alen, AOut.pure] at hx
          cases hx
          exact ok_len_str hT ho hc h hti hk ht ha hl
        · cases hx
        · rename_i e hk hns
          rw [Option.map_eq_some_iff] at hk
          obtain ⟨ti, hti, hk⟩ := hk
          exact ok_len_slice hT ho hc h hti hk ht ha (fun l hl => hns l hl) hx hp
        · cases hx
      · -- min
        exact ok_minmax (mx := false) ho hc h hx
      · exact ok_minmax (mx := true) ho hc h hx
      · -- append
        rename_i t t' x y hts hargs
        split at hx
        · rename_i ti d htt hti hd
          have htt : t = t' := by simpa using htt
          subst htt
          split at hx
          · rename_i e hk
            split at hx
            · rename_i ei hei
              split at hx
              · rename_i _ hby
                have hby : 1 ≤ ei.bytes := Nat.le_of_ble_eq_true hby
                have hl2 : c.args.toList.length = 2 := by have := congrArg List.length hargs; simpa using this
                obtain ⟨x0, y0, hl⟩ : ∃ x0 y0, c.args.toList = [x0, y0] := by
                  match c.args.toList, hl2 with
                  | [p, q], _ => exact ⟨p, q, rfl⟩
                rw [hl] at hargs
                simp only [List.map_cons, List.map_nil, List.cons.injEq, and_true] at hargs
                obtain ⟨rfl, rfl⟩ := hargs
                exact ok_append hT ho hc h (Array.ext' (by simpa using hts)) (Array.ext' (by simpa using hl)) hti hk hei hby hf hx hp
              · cases hx
            · cases hx
          · cases hx
        · cases hx
      · cases hx
    · cases hx
  · cases hx

theorem op_test {eq2 : TypeId → Bool} {φ : Prop} {d : Decidable φ} (hT : TabOk P tab) (heq : Eq2Ok P eq2) (h : St w0 A0 A ρ s a w)
    (hx : aop eq2 tab o s.ev s.obj = .test φ d) : Goes P o a w (Sim w0 A0 (s.app o.dst (.bool (decide φ)) [])) := by
  unfold aop at hx
  split at hx
  case h_11 op t x y t' ho =>
    refine ok_bin_test heq (isb := match (tab t).map TI.k with | some .bool => true | _ => false) (fun hb => ?_) ho h hx
    split at hb
    · rename_i hk
      rw [Option.map_eq_some_iff] at hk
      obtain ⟨ti, hti, hk⟩ := hk
      exact und_bool (hT t ti hti) hk
    · cases hb
  all_goals
    exfalso
    revert hx
    first
      | exact plain_val _ _ _ _ _ _
      | exact plain_fail _ _
      | apply abuild_plain
      | apply abuildSlice_plain
      | apply aun_plain
      | apply aconv_plain
      | apply amakeSlice_plain
      | ((repeat' split) <;> first | exact plain_val _ _ _ _ _ _ | exact plain_fail _ _ | apply aload_plain | apply astore_plain | apply afield_plain | apply aindexAddr_plain | apply aindex_plain | apply aslice_plain | apply abuiltin_plain)

end
end Go.Proofs.Ytefbgdnobnemkaa.AM
