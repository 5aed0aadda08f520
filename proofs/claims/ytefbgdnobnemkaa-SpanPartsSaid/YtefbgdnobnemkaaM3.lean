/-
  What the model's operations do to abstract states.
-/
import Derived.Test.YtefbgdnobnemkaaM2
namespace Go.Proofs.Ytefbgdnobnemkaa.AM
open Go Go.RowKit

/-- The numbers of a kind. -/
def inK : IntKind → Int → Prop
  | .i64, n => -9223372036854775808 ≤ n ∧ n ≤ 9223372036854775807
  | .i32, n => -2147483648 ≤ n ∧ n ≤ 2147483647
  | .i16, n => -32768 ≤ n ∧ n ≤ 32767
  | .i8, n => -128 ≤ n ∧ n ≤ 127
  | .u8, n => 0 ≤ n ∧ n ≤ 255
  | .u16, n => 0 ≤ n ∧ n ≤ 65535
  | .u32, n => 0 ≤ n ∧ n ≤ 4294967295
  | .u64, n => 0 ≤ n ∧ n ≤ 18446744073709551615

theorem wrap_inK {k : IntKind} {n : Int} (h : inK k n) : k.wrap n = n := by
  cases k
  · exact IntWalk.i8_in n h
  · exact IntWalk.i16_in n h
  · exact IntWalk.i32_in n h
  · exact IntWalk.i64_in n h
  · exact IntWalk.u8_in n h
  · exact IntWalk.u16_in n h
  · exact IntWalk.u32_in n h
  · exact IntWalk.u64_in n h

inductive AOut where
  | val (pre : Prop) (v : AV) (upd : List (Nat × Option Obj)) (new : List Nat)
  | test (φ : Prop) (d : Decidable φ)
  | fail

def AOut.pure (v : AV) : AOut := .val True v [] []
def AOut.need (pre : Prop) (v : AV) : AOut := .val pre v [] []

/-- A value's cells. -/
def AV.cellsOf : AV → Option (List AV)
  | .agg cs => some cs
  | .junk => none
  | .tup _ => none
  | x => some [x]

def setL {α : Type} : List α → Nat → List α → List α
  | l, _, [] => l
  | l, o, x :: xs => setL (l.set o x) (o + 1) xs

/-- Cells put into what a row or a variable holds. -/
def AV.setAt : AV → Nat → List AV → Option AV
  | .agg cs, off, xs => some (.agg (setL cs off xs))
  | .slG sz cs, off, xs => some (.slG sz (setL cs off xs))
  | .slS ls, off, [.str l] => some (.slS (ls.set off l))
  | .slB bs, off, [.int .u8 n] => some (.slB (bs.set off (UInt8.ofNat n.toNat)))
  | _, _, _ => none

def AV.sub (c : AV) (off k : Nat) : List AV := (List.range k).map fun j => c.get (off + j)

def aread (ti : TI) (pre : Prop) (c : AV) (off : Nat) : AOut :=
  match ti.isAgg with
  | true => .need (pre ∧ off + ti.size ≤ c.ncells) (.agg (c.sub off ti.size))
  | false => .need (pre ∧ off < c.ncells) (c.get off)

def aload (ti : TI) (v : AV) (ob : Nat → Option Obj) : AOut :=
  match v with
  | .ptr d off => match ob d with
    | some o => match o.c with
      | .agg cs => aread ti True (.agg cs) off
      | _ => .fail
    | none => .fail
  | .cptr c off => aread ti True c off
  | .eptr d n off => match ob d with
    | some o => aread ti (o.c.rowlen = some n) o.c off
    | none => .fail
  | _ => .fail

/-- A number that is put into a row of bytes. -/
def byteOk (c : AV) (cs : List AV) : Prop :=
  match c, cs with
  | .slB _, [.int .u8 n] => 0 ≤ n ∧ n ≤ 255
  | _, _ => True

def awrite (d : Nat) (ti : TI) (pre : Prop) (o : Obj) (off : Nat) (x : AV) : AOut :=
  match o.wr, x.cellsOf with
  | true, some cs => match cs.length == ti.size, o.c.setAt off cs with
    | true, some c' => .val (pre ∧ off + cs.length ≤ o.c.ncells ∧ byteOk o.c cs) .junk [(d, some { o with c := c' })] []
    | _, _ => .fail
  | _, _ => .fail

def astore (ti : TI) (v x : AV) (ob : Nat → Option Obj) : AOut :=
  match v with
  | .ptr d off => match ob d with
    | some o => match o.c with
      | .agg _ => awrite d ti True o off x
      | _ => .fail
    | none => .fail
  | .eptr d n off => match ob d with
    | some o => awrite d ti (o.c.rowlen = some n) o off x
    | none => .fail
  | _ => .fail

/-- Is it a variable? -/
def isBox (ob : Nat → Option Obj) (d : Nat) : Bool :=
  match ob d with
  | some o => match o.c with
    | .agg _ => true
    | _ => false
  | none => false

def afield (ti : TI) (v : AV) (f : Nat) (ob : Nat → Option Obj) : AOut :=
  match ti.k, ti.flds[f]? with
  | .struct, some (off, _, _ + 1) => match v with
    | .ptr d o => match isBox ob d with
      | true => .pure (.ptr d (o + off))
      | false => .fail
    | .cptr c o => .pure (.cptr c (o + off))
    | .eptr d n o => match ob d with
      | some o' => .need (o'.c.rowlen = some n ∧ 0 < n) (.eptr d n (o + off))
      | none => .fail
    | _ => .fail
  | _, _ => .fail

def mulSz (i sz : Nat) : Nat := match sz with | 1 => i | _ => i * sz

def aindexAddr (ti : TI) (esz : Nat) (v i : AV) (ob : Nat → Option Obj) : AOut :=
  match i with
  | .int _ n => match ti.k, v with
    | .slice _, .own d m => match ob d with
      | some o => match o.c.esz == esz with
        | true => .need (o.c.rowlen = some m ∧ 0 ≤ n ∧ n < (m : Int)) (.eptr d m (mulSz n.toNat esz))
        | false => .fail
      | none => .fail
    | .slice _, .slS xs => match esz with
      | 1 => .need (0 ≤ n ∧ n < (xs.length : Int)) (.cptr (.slS xs) n.toNat)
      | _ => .fail
    | .slice _, .slB xs => match esz with
      | 1 => .need (0 ≤ n ∧ n < (xs.length : Int)) (.cptr (.slB xs) n.toNat)
      | _ => .fail
    | .slice _, .slG sz cs => match sz == esz with
      | true => .need ((AV.slG sz cs).rowlen = some (cs.length / sz) ∧ 0 ≤ n ∧ n < ((cs.length / sz : Nat) : Int)) (.cptr (.slG sz cs) (mulSz n.toNat sz))
      | false => .fail
    | .array m _, .ptr d off => match isBox ob d with
      | true => .need (0 ≤ n ∧ n < (m : Int)) (.ptr d (off + mulSz n.toNat esz))
      | false => .fail
    | _, _ => .fail
  | _ => .fail

def aindex (ti : TI) (esz : Nat) (v i : AV) : AOut :=
  match i with
  | .int _ n => match ti.k, v with
    | .str, .str l => .need (0 ≤ n ∧ n < (l.length : Int)) (.int .u8 ((l.getD n.toNat 0).toNat : Int))
    | .array m _, .agg cs => match esz with
      | 1 => .need (0 ≤ n ∧ n < (m : Int) ∧ cs.length = m) (cs.getD n.toNat .junk)
      | _ => .fail
    | _, _ => .fail
  | _ => .fail

/-- A part of a list: from, up to. -/
def cutL {α : Type} (l : List α) : Option Nat → Option Nat → List α
  | none, none => l
  | some a, none => l.drop a
  | none, some b => l.take b
  | some a, some b => (l.take b).drop a

/-- A bound: none; some number; no number. -/
def bnd : Option AV → Option (Option Int)
  | none => some none
  | some (.int _ n) => some (some n)
  | _ => none

def cutPre (len : Nat) (lo hi : Option Int) : Prop :=
  match lo, hi with
  | none, none => True
  | some a, none => 0 ≤ a ∧ a ≤ (len : Int)
  | none, some b => 0 ≤ b ∧ b ≤ (len : Int)
  | some a, some b => 0 ≤ a ∧ a ≤ b ∧ b ≤ (len : Int)

def toN (x : Option Int) : Option Nat := x.map Int.toNat

/-- A part of a row whose elements have sz cells. -/
def AV.cut (c : AV) (lo hi : Option Nat) : AV :=
  match c with
  | .slS xs => .slS (cutL xs lo hi)
  | .slB xs => .slB (cutL xs lo hi)
  | .slG sz cs => .slG sz (cutL cs (lo.map (· * sz)) (hi.map (· * sz)))
  | c => c

def aslice (ti : TI) (esz : Nat) (v : AV) (lo hi : Option AV) (ob : Nat → Option Obj) : AOut :=
  match bnd lo, bnd hi with
  | some l, some h => match ti.k, v with
    | .str, .str s => .need (cutPre s.length l h) (.str (cutL s (toN l) (toN h)))
    | .slice _, .slS xs => match esz with
      | 1 => .need (cutPre xs.length l h) (.slS (cutL xs (toN l) (toN h)))
      | _ => .fail
    | .slice _, .slB xs => match esz with
      | 1 => .need (cutPre xs.length l h) (.slB (cutL xs (toN l) (toN h)))
      | _ => .fail
    | .slice _, .slG sz cs => match sz == esz with
      | true => .need ((AV.slG sz cs).rowlen = some (cs.length / sz) ∧ cutPre (cs.length / sz) l h) ((AV.slG sz cs).cut (toN l) (toN h))
      | false => .fail
    | .slice _, .nilsl => .need (cutPre 0 l h) .nilsl
    | .slice _, .own d m => match ob d with
      | some o => match o.c with
        | .slS xs => match esz with
          | 1 => .val (xs.length = m ∧ cutPre m l h) (.slS (cutL xs (toN l) (toN h))) [(d, some { o with wr := false })] []
          | _ => .fail
        | _ => .fail
      | none => .fail
    | _, _ => .fail
  | _, _ => .fail

def alen (v : AV) : AOut :=
  match v with
  | .str l => .pure (.int .i64 (l.length : Int))
  | .slS l => .pure (.int .i64 (l.length : Int))
  | .slB l => .pure (.int .i64 (l.length : Int))
  | .slG sz cs => .need ((AV.slG sz cs).rowlen = some (cs.length / sz)) (.int .i64 ((cs.length / sz : Nat) : Int))
  | .nilsl => .pure (.int .i64 0)
  | _ => .fail

def alenO (v : AV) (ob : Nat → Option Obj) : AOut :=
  match v with
  | .own d n => match ob d with
    | some o => .need (o.c.rowlen = some n) (.int .i64 (n : Int))
    | none => .fail
  | v => alen v

/-- Numbers. -/
def aint (op : BinOp) (k : IntKind) (a b : Int) : AOut :=
  match op with
  | .add => .need (inK k (a + b)) (.int k (a + b))
  | .sub => .need (inK k (a - b)) (.int k (a - b))
  | .mul => .need (inK k (a * b)) (.int k (a * b))
  | .quo => .need (b ≠ 0 ∧ inK k (a.tdiv b)) (.int k (a.tdiv b))
  | .rem => .need (b ≠ 0) (.int k (a.tmod b))
  | .eql => .test (a = b) inferInstance
  | .neq => .test (a ≠ b) inferInstance
  | .lss => .test (a < b) inferInstance
  | .leq => .test (a ≤ b) inferInstance
  | .gtr => .test (b < a) inferInstance
  | .geq => .test (b ≤ a) inferInstance
  | _ => .fail

def abin (eq2 : TypeId → Bool) (isb : Bool) (op : BinOp) (t : TypeId) (x y : AV) : AOut :=
  match x, y with
  | .int k a, .int k' b => match decide (k = k') with
    | true => aint op k a b
    | false => .fail
  | .str a, .str b => match op with
    | .add => .need (a.length + b.length ≤ 9223372036854775807) (.str (a ++ b))
    | .eql => .test (a = b) inferInstance
    | .neq => .test (a ≠ b) inferInstance
    | _ => .fail
  | .bool a, .bool b => match op, isb with
    | .eql, true => .test (a = b) inferInstance
    | .neq, true => .test (a ≠ b) inferInstance
    | _, _ => .fail
  | .agg [.int .i64 a, .int .i64 b], .agg [.int .i64 c, .int .i64 d] => match op, eq2 t with
    | .eql, true => .test (a = c ∧ b = d) inferInstance
    | .neq, true => .test (¬ (a = c ∧ b = d)) inferInstance
    | _, _ => .fail
  | _, _ => .fail

def aun (op : UnOp) (x : AV) : AOut :=
  match op, x with
  | .not, .bool b => .pure (.bool (!b))
  | _, _ => .fail

/-- The content of what is appended, and how many elements. -/
def acont (v : AV) (ob : Nat → Option Obj) : Option (Prop × Option AV) :=
  match v with
  | .nilsl => some (True, none)
  | .slS xs => some (True, some (.slS xs))
  | .slB xs => some (True, some (.slB xs))
  | .slG sz cs => some ((AV.slG sz cs).rowlen = some (cs.length / sz), some (.slG sz cs))
  | .own d n => match ob d with
    | some o => some (o.c.rowlen = some n, some o.c)
    | none => none
  | _ => none

def AV.rowlenD (c : AV) : Nat :=
  match c with
  | .slS xs => xs.length
  | .slB xs => xs.length
  | .slG sz cs => cs.length / sz
  | _ => 0

def AV.cat : AV → AV → Option AV
  | .slS a, .slS b => some (.slS (a ++ b))
  | .slB a, .slB b => some (.slB (a ++ b))
  | .slG sz a, .slG sz' b => match sz == sz' with
    | true => some (.slG sz (a ++ b))
    | false => none
  | _, _ => none

/-- append: onto nothing, or onto a row of the running call. -/
def aappend (e : TypeId) (esz bytes : Nat) (dst : Nat) (b x : AV) (ob : Nat → Option Obj) : AOut :=
  match b with
  | .nilsl => match acont x ob with
    | some (p, some c) => match c.esz == esz with
      | true => .val (p ∧ c.rowlenD * bytes ≤ 140737488355328) (.own dst c.rowlenD) [(dst, some { wr := true, app := true, c := c, e := e })] [dst]
      | false => .fail
    | some (p, none) => .need p .nilsl
    | none => .fail
  | .own d n => match ob d with
    | some o => match o.wr && o.app, decide (o.e = e), o.c.esz == esz, acont x ob with
      | true, true, true, some (p, some c) => match c.esz == esz, o.c.cat c with
        | true, some c' => .val (p ∧ o.c.rowlen = some n ∧ (n + c.rowlenD) * bytes ≤ 140737488355328) (.own d (n + c.rowlenD)) [(d, some { o with c := c' })] []
        | _, _ => .fail
      | true, true, true, some (p, none) => .need (p ∧ o.c.rowlen = some n) (.own d n)
      | _, _, _, _ => .fail
    | none => .fail
  | _ => .fail

end Go.Proofs.Ytefbgdnobnemkaa.AM
