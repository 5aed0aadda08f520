/-
  A call that yields a Bool: both ways.
-/
import Derived.Test.YtefbgdnobnemkaaM29
namespace Go.Proofs.Ytefbgdnobnemkaa.AM
open Go Go.RowKit

theorem rowlen_intro {c : AV} {n : Nat} (h : c.rowlen = some n) : c.rowlen = some n := h

def forceOL {α : Type} : List (Option Obj) → (List (Option Obj) → α) → α
  | [], k => k []
  | none :: l, k => forceOL l fun l => k (none :: l)
  | some o :: l, k => forceO o fun o => forceOL l fun l => k (some o :: l)

theorem forceOL_eq {α : Type} : ∀ (l : List (Option Obj)) (k : List (Option Obj) → α), forceOL l k = k l
  | [], _ => rfl
  | none :: l, k => by simp only [forceOL, forceOL_eq l]
  | some o :: l, k => by simp only [forceOL, forceO_eq, forceOL_eq l]

section
variable {P : Program} {eq2 : TypeId → Bool} {tab : Tab} {s s1 s2 : AState} {ops : Array Oper} {i : Nat} {l : List Oper} {K : List (Nat × Foot) → AState → Prop} {o : Oper}

theorem ARun.testT {φ : Prop} {d : Decidable φ} (hw : wantB ops o s = some true) (hx : aop eq2 tab o s.ev s.obj = .test φ d) (hφ : φ) (hs : s.app o.dst (.bool true) [] = s1)
    (h : ARun P eq2 tab ops (i + 1) l s1 (fun tr s' => K ((i, ⟨opMents o s.ev, [], []⟩) :: tr) s')) : ARun P eq2 tab ops i (o :: l) s K :=
  .test hw hx (by rw [decide_eq_true hφ]; exact hs) h

theorem ARun.testE {α : Type} {x : α} {d : Decidable (x = x)} (hw : wantB ops o s = some true) (hx : aop eq2 tab o s.ev s.obj = .test (x = x) d) (hs : s.app o.dst (.bool true) [] = s1)
    (h : ARun P eq2 tab ops (i + 1) l s1 (fun tr s' => K ((i, ⟨opMents o s.ev, [], []⟩) :: tr) s')) : ARun P eq2 tab ops i (o :: l) s K :=
  .testT hw hx rfl hs h

theorem ARun.testEE {x y : Int} {d : Decidable (x = x ∧ y = y)} (hw : wantB ops o s = some true) (hx : aop eq2 tab o s.ev s.obj = .test (x = x ∧ y = y) d) (hs : s.app o.dst (.bool true) [] = s1)
    (h : ARun P eq2 tab ops (i + 1) l s1 (fun tr s' => K ((i, ⟨opMents o s.ev, [], []⟩) :: tr) s')) : ARun P eq2 tab ops i (o :: l) s K :=
  .testT hw hx ⟨rfl, rfl⟩ hs h

theorem ARun.callB {c : Call} {fop : Operand} {g : FuncId} {caps : List AV} {b : Bool} {args : List AV} (hw : wantB ops o s = some true) (ho : o.op = .call c) (hc : c.callee = .value fop) (hg : s.ev fop = .fn g caps)
    (ha : (callArgs c caps s.ev).map (closeV s.obj 5) = args) (hm : mentsL args = []) (hr : Pure P g args (.bool b)) (hcl : allP (closeP s.obj 5) (callArgs c caps s.ev))
    (hs : s.app o.dst (.bool true) [] = s1) (hs2 : s.app o.dst (.bool false) [] = s2)
    (h : b = true → ARun P eq2 tab ops (i + 1) l s1 (fun tr s' => K ((i, ⟨opMents o s.ev ++ (callArgs c caps s.ev).flatMap (visits s.obj 5), [], []⟩) :: tr) s'))
    (h2 : b = false → ARun P eq2 tab ops (i + 1) l s2 (fun tr s' => K ((i, ⟨opMents o s.ev ++ (callArgs c caps s.ev).flatMap (visits s.obj 5), [], []⟩) :: tr) s')) : ARun P eq2 tab ops i (o :: l) s K := by
  cases b with
  | true => exact .call hw ho hc hg ha hm hr hcl hs (h rfl)
  | false => exact .call hw ho hc hg ha hm hr hcl hs2 (h2 rfl)

theorem ARun.callF {c : Call} {fop : Operand} {g : FuncId} {caps : List AV} {r : AV} {args : List AV} (hw : wantB ops o s = some true) (ho : o.op = .call c) (hc : c.callee = .value fop) (hg : s.ev fop = .fn g caps)
    (ha : (callArgs c caps s.ev).map (closeV s.obj 5) = args) (hm : mentsL args = []) (hr : Pure P g args r) (hcl : allP (closeP s.obj 5) (callArgs c caps s.ev))
    (hs : forceOL (s.app o.dst r (match r.flat with | true => [] | false => frz s ((callArgs c caps s.ev).flatMap (visits s.obj 5)))).objs (fun os => some (AState.mk (s.app o.dst r []).tmps os)) = some s1)
    (h : ARun P eq2 tab ops (i + 1) l s1 (fun tr s' => K ((i, ⟨opMents o s.ev ++ (callArgs c caps s.ev).flatMap (visits s.obj 5), match r.flat with | true => [] | false => (callArgs c caps s.ev).flatMap (visits s.obj 5), []⟩) :: tr) s')) : ARun P eq2 tab ops i (o :: l) s K := by
  refine .call hw ho hc hg ha hm hr hcl ?_ h
  rw [forceOL_eq] at hs
  cases hs
  refine AState.ext ?_ rfl
  rw [app_tmps, app_tmps]

end
end Go.Proofs.Ytefbgdnobnemkaa.AM
