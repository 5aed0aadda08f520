/-
  All operations of the abstract machine.
-/
import Derived.Test.YtefbgdnobnemkaaM4
namespace Go.Proofs.Ytefbgdnobnemkaa.AM
open Go Go.RowKit

def toSs : List AV → Option (List (List UInt8))
  | [] => some []
  | .str l :: r => (toSs r).map (l :: ·)
  | _ => none

def toBs : List AV → Option (List UInt8)
  | [] => some []
  | .int .u8 n :: r => (toBs r).map (UInt8.ofNat n.toNat :: ·)
  | _ => none

/-- A row made of cells. -/
def toRow (k : TK) (sz : Nat) (cells : List AV) : Option AV :=
  match k with
  | .str => (toSs cells).map .slS
  | _ => match sz with
    | 0 => none
    | _ + 1 => some (.slG sz cells)

/-- The parts of a composite, put in one by one: where a part goes, and its size. -/
def afill (place : Nat → Option (Nat × Nat)) : List AV → List (Nat × AV) → Option (List AV)
  | cells, [] => some cells
  | cells, (i, x) :: rest => match place i, x.cellsOf with
    | some (off, sz), some cs => match cs.length == sz, Nat.ble (off + cs.length) cells.length with
      | true, true => afill place (setL cells off cs) rest
      | _, _ => none
    | _, _ => none

def abuild (tab : Tab) (t : TypeId) (parts : List (Nat × AV)) : AOut :=
  match tab t with
  | some ti => match ti.k with
    | .struct => match afill (fun i => (ti.flds[i]?).map fun f => (f.1, f.2.2)) ti.zero parts with
      | some cells => .pure (.agg cells)
      | none => .fail
    | .array _ e => match tab e with
      | some ei => match afill (fun i => some (i * ei.size, ei.size)) ti.zero parts with
        | some cells => .pure (.agg cells)
        | none => .fail
      | none => .fail
    | _ => .fail
  | none => .fail

def abuildSlice (tab : Tab) (dst : Option Nat) (t : TypeId) (len : Nat) (parts : List (Nat × AV)) : AOut :=
  match tab t, dst with
  | some ti, some d => match ti.k with
    | .slice e => match tab e with
      | some ei => match Nat.ble 1 ei.size, Nat.ble (len * ei.size) 4096, afill (fun i => some (i * ei.size, ei.size)) ((List.range (len * ei.size)).map fun i => ei.zero.getD (i % ei.size) .junk) parts with
        | true, true, some cells => match toRow ei.k ei.size cells with
          | some c => .val True (.own d len) [(d, some { wr := true, app := true, c := c, e := e })] [d]
          | none => .fail
        | _, _, _ => .fail
      | none => .fail
    | _ => .fail
  | _, _ => .fail

def aconv (tab : Tab) (dst : Option Nat) (src t : TypeId) (x : AV) (ob : Nat → Option Obj) : AOut :=
  match tab src, tab t with
  | some si, some ti => match si.k, ti.k, x with
    | .int _, .int k, .int _ n => .need (inK k n) (.int k n)
    | .slice e, .str, x => match (tab e).map TI.k with
      | some (.int .u8) => match x with
        | .nilsl => .pure (.str [])
        | .slB bs => .pure (.str bs)
        | .slG 1 cs => match toBs cs with
          | some bs => .pure (.str bs)
          | none => .fail
        | .own d n => match ob d with
          | some o => match o.c with
            | .slB bs => .need (bs.length = n) (.str bs)
            | .slG 1 cs => match toBs cs with
              | some bs => .need (cs.length = n) (.str bs)
              | none => .fail
            | _ => .fail
          | none => .fail
        | _ => .fail
      | _ => .fail
    | .str, .slice e, .str l => match (tab e).map TI.k, dst with
      | some (.int .u8), some d => .val (l.length ≤ 140737488355328) (.own d l.length) [(d, some { wr := true, app := false, c := .slB l, e := e })] [d]
      | _, _ => .fail
    | _, _, _ => .fail
  | _, _ => .fail

def amakeSlice (tab : Tab) (dst : Option Nat) (t : TypeId) (l c : AV) : AOut :=
  match tab t, dst, l, c with
  | some ti, some d, .int .i64 n, .int .i64 m => match ti.k with
    | .slice e => match tab e with
      | some ei => match ei.k, ei.bytes, ei.size, ei.zero with
        | .int .u8, 1, 1, [.int .u8 (.ofNat 0)] => .val (n = m ∧ 0 ≤ n ∧ n ≤ 140737488355328) (.own d n.toNat) [(d, some { wr := true, app := true, c := .slB (List.replicate n.toNat 0), e := e })] [d]
        | _, _, _, _ => .fail
      | none => .fail
    | _ => .fail
  | _, _, _, _ => .fail

def amin (mx : Bool) : List AV → AOut
  | [.int k a, .int k' b] => match decide (k = k') with
    | true => match mx with
      | true => .pure (.int k (max a b))
      | false => .pure (.int k (min a b))
    | false => .fail
  | _ => .fail

def abuiltin (tab : Tab) (dst : Option Nat) (b : Builtin) (ts : List TypeId) (args : List AV) (ob : Nat → Option Obj) : AOut :=
  match b, ts, args with
  | .len, t :: _, x :: _ => match (tab t).map TI.k, x with
    | some .str, .str l => alen (.str l)
    | some (.slice _), .str _ => .fail
    | some (.slice _), x => alenO x ob
    | _, _ => .fail
  | .min, _, args => amin false args
  | .max, _, args => amin true args
  | .append, [t, t'], [x, y] => match t == t', tab t, dst with
    | true, some ti, some d => match ti.k with
      | .slice e => match tab e with
        | some ei => match Nat.ble 1 ei.size, Nat.ble 1 ei.bytes with
          | true, true => aappend e ei.size ei.bytes d x y ob
          | _, _ => .fail
        | none => .fail
      | _ => .fail
    | _, _, _ => .fail
  | _, _, _ => .fail

/-- An operation that calls no function of the program. -/
def aop (eq2 : TypeId → Bool) (tab : Tab) (o : Oper) (ev : Operand → AV) (ob : Nat → Option Obj) : AOut :=
  match o.op with
  | .move x => .pure (ev x)
  | .assign x => .pure (ev x)
  | .pick c x y => match ev c with
    | .bool true => .pure (ev x)
    | .bool false => .pure (ev y)
    | _ => .fail
  | .alloc t => match tab t, o.dst with
    | some ti, some d => .val True (.ptr d 0) [(d, some { wr := true, app := false, c := .agg ti.zero, e := t })] [d]
    | _, _ => .fail
  | .box t x => match (ev x).cellsOf, o.dst with
    | some cs, some d => .val True (.ptr d 0) [(d, some { wr := true, app := false, c := .agg cs, e := t })] [d]
    | _, _ => .fail
  | .build t parts => abuild tab t (parts.toList.map fun p => (p.1, ev p.2))
  | .buildSlice t len parts => abuildSlice tab o.dst t len (parts.toList.map fun p => (p.1, ev p.2))
  | .load t x => match tab t with
    | some ti => aload ti (ev x) ob
    | none => .fail
  | .store t x y => match tab t, o.dst with
    | some ti, none => astore ti (ev x) (ev y) ob
    | _, _ => .fail
  | .nilCheck x => match ev x with
    | .fn f cs => .pure (.fn f cs)
    | .cptr c off => .pure (.cptr c off)
    | .ptr d off => match isBox ob d with
      | true => .pure (.ptr d off)
      | false => .fail
    | _ => .fail
  | .binOp op t x y _ => abin eq2 (match (tab t).map TI.k with | some .bool => true | _ => false) op t (ev x) (ev y)
  | .unOp op _ x => aun op (ev x)
  | .convert src dst x => aconv tab o.dst src dst (ev x) ob
  | .makeFunc (.func f) first caps => match first.toList with
    | [] => .pure (.fn f (caps.toList.map ev))
    | _ => .fail
  | .makeSlice t l c => amakeSlice tab o.dst t (ev l) (ev c)
  | .slice t x lo hi none => match tab t with
    | some ti => match ti.k with
      | .str => aslice ti 1 (ev x) (lo.map ev) (hi.map ev) ob
      | .slice e => match tab e with
        | some ei => aslice ti ei.size (ev x) (lo.map ev) (hi.map ev) ob
        | none => .fail
      | _ => .fail
    | none => .fail
  | .fieldAddr t x f => match tab t with
    | some ti => afield ti (ev x) f ob
    | none => .fail
  | .indexAddr t x i => match tab t with
    | some ti => match ti.k with
      | .slice e => match tab e with
        | some ei => aindexAddr ti ei.size (ev x) (ev i) ob
        | none => .fail
      | .array _ e => match tab e with
        | some ei => aindexAddr ti ei.size (ev x) (ev i) ob
        | none => .fail
      | _ => .fail
    | none => .fail
  | .index t x i => match tab t with
    | some ti => match ti.k with
      | .str => aindex ti 1 (ev x) (ev i)
      | .array _ e => match tab e with
        | some ei => match ei.isAgg with
          | false => aindex ti ei.size (ev x) (ev i)
          | true => .fail
        | none => .fail
      | _ => .fail
    | none => .fail
  | .extract x i => match ev x with
    | .tup vs => match vs[i]? with
      | some v => .pure v
      | none => .fail
    | _ => .fail
  | .call c => match c.callee with
    | .builtin b => abuiltin tab o.dst b c.argTypes.toList (c.args.toList.map ev) ob
    | _ => .fail
  | _ => .fail

/-- What an abstract operation does to a state. -/
def AState.app (s : AState) (dst : Option Nat) (v : AV) (u : List (Nat × Option Obj)) : AState :=
  (u.foldl (fun s p => s.upd p.1 p.2) s).put dst v

end Go.Proofs.Ytefbgdnobnemkaa.AM
