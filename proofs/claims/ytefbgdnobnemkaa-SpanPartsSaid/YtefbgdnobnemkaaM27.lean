/-
  The abstract machine's operations, so that what they yield is told by a constructor.
-/
import Derived.Test.YtefbgdnobnemkaaM26
namespace Go.Proofs.Ytefbgdnobnemkaa.AM
open Go Go.RowKit

def forceH {α : Type} (x : AV) (k : AV → α) : α :=
  match x with
  | .junk => k .junk
  | .int a b => k (.int a b)
  | .bool b => k (.bool b)
  | .str l => k (.str l)
  | .nilsl => k .nilsl
  | .nilptr => k .nilptr
  | .slS l => k (.slS l)
  | .slB l => k (.slB l)
  | .slG a b => k (.slG a b)
  | .cptr a b => k (.cptr a b)
  | .agg l => k (.agg l)
  | .tup l => k (.tup l)
  | .fn f l => k (.fn f l)
  | .ptr a b => k (.ptr a b)
  | .own a b => k (.own a b)
  | .eptr a b c => k (.eptr a b c)

theorem forceH_eq {α : Type} (x : AV) (k : AV → α) : forceH x k = k x := by cases x <;> rfl

def forceL {α : Type} : List AV → (List AV → α) → α
  | [], k => k []
  | x :: xs, k => forceH x fun x => forceL xs fun xs => k (x :: xs)

theorem forceL_eq {α : Type} : ∀ (xs : List AV) (k : List AV → α), forceL xs k = k xs
  | [], _ => rfl
  | x :: xs, k => by simp only [forceL, forceH_eq, forceL_eq xs]

def forceAV {α : Type} (x : AV) (k : AV → α) : α :=
  match x with
  | .junk => k .junk
  | .int a b => k (.int a b)
  | .bool b => k (.bool b)
  | .str l => k (.str l)
  | .nilsl => k .nilsl
  | .nilptr => k .nilptr
  | .slS l => k (.slS l)
  | .slB l => k (.slB l)
  | .slG a b => k (.slG a b)
  | .cptr a b => k (.cptr a b)
  | .agg l => forceL l fun l => k (.agg l)
  | .tup l => forceL l fun l => k (.tup l)
  | .fn f l => forceL l fun l => k (.fn f l)
  | .ptr a b => k (.ptr a b)
  | .own a b => k (.own a b)
  | .eptr a b c => k (.eptr a b c)

theorem forceAV_eq {α : Type} (x : AV) (k : AV → α) : forceAV x k = k x := by cases x <;> simp only [forceAV, forceL_eq]

def forceB {α : Type} (b : Bool) (k : Bool → α) : α := match b with | true => k true | false => k false
theorem forceB_eq {α : Type} (b : Bool) (k : Bool → α) : forceB b k = k b := by cases b <;> rfl

def forceN {α : Type} (n : Nat) (k : Nat → α) : α := match n with | 0 => k 0 | m + 1 => k (m + 1)
theorem forceN_eq {α : Type} (n : Nat) (k : Nat → α) : forceN n k = k n := by cases n <;> rfl

def forceO {α : Type} (o : Obj) (k : Obj → α) : α := match o with | ⟨a, b, c, e⟩ => forceB a fun a => forceB b fun b => forceAV c fun c => forceN e fun e => k ⟨a, b, c, e⟩
theorem forceO_eq {α : Type} (o : Obj) (k : Obj → α) : forceO o k = k o := by cases o; simp only [forceO, forceB_eq, forceAV_eq, forceN_eq]

def forceU {α : Type} (u : List (Nat × Option Obj)) (k : List (Nat × Option Obj) → α) : α :=
  match u with
  | [] => k []
  | [(d, some o)] => forceO o fun o => k [(d, some o)]
  | u => k u
theorem forceU_eq {α : Type} (u : List (Nat × Option Obj)) (k : List (Nat × Option Obj) → α) : forceU u k = k u := by
  unfold forceU
  split <;> simp only [forceO_eq]

def AOut.force (x : AOut) : AOut :=
  match x with
  | .val pre v u n => forceAV v fun v => forceU u fun u => .val pre v u n
  | .test φ d => .test φ d
  | .fail => .fail

theorem AOut.force_eq (x : AOut) : x.force = x := by cases x <;> simp only [AOut.force, forceAV_eq, forceU_eq]

section
variable {P : Program} {eq2 : TypeId → Bool} {tab : Tab} {s s1 : AState} {ops : Array Oper} {i : Nat} {l : List Oper} {K : List (Nat × Foot) → AState → Prop} {o : Oper}

theorem ARun.valF {pre : Prop} {v : AV} {u : List (Nat × Option Obj)} {n : List Nat} (hw : wantB ops o s = some true) (hx : (aop eq2 tab o s.ev s.obj).force = .val pre v u n) (hf : n.all (freshB s) = true) (hs : s.app o.dst v u = s1) (hp : pre)
    (h : ARun P eq2 tab ops (i + 1) l s1 (fun tr s' => K ((i, ⟨opMents o s.ev, u.map (·.1), n⟩) :: tr) s')) : ARun P eq2 tab ops i (o :: l) s K :=
  .val hw (by rw [← hx, AOut.force_eq]) hf hs hp h

/-- In a region whose order is not drawn nobody asks for the trace. -/
theorem ARun.valT {K : AState → Prop} {pre : Prop} {v : AV} {u : List (Nat × Option Obj)} {n : List Nat} (hw : wantB ops o s = some true) (hx : (aop eq2 tab o s.ev s.obj).force = .val pre v u n) (hf : n.all (freshB s) = true) (hs : s.app o.dst v u = s1) (hp : pre)
    (h : ARun P eq2 tab ops (i + 1) l s1 (fun _ s' => K s')) : ARun P eq2 tab ops i (o :: l) s (fun _ s' => K s') :=
  .val (K := fun _ s' => K s') hw (by rw [← hx, AOut.force_eq]) hf hs hp h

theorem Fin.mk' {ts : List Tmp} {r r' : AV} (h : closeV s.obj 5 (resAV ts s) = r') (hr : r' = r) (hc : closeP s.obj 5 (resAV ts s)) : Fin ts r s := ⟨h.trans hr, hc⟩

end
end Go.Proofs.Ytefbgdnobnemkaa.AM
