/- Proved: florinlaw26.ScriptLong returns true for every input (the listed package-level variables hold what the program's text lays; no other condition). Part 1 of 13. -/
import GoSem.Dispatch
import Derived.Calls
import Derived.Laws.AppendOwn
import Derived.Laws.MakeOwn
import Derived.Laws.Strings
import Derived.Laws.Rows
import Derived.Laws.BitsLemmas
import Derived.Laws.StructEq
/- The abstract machine: values as trees, local structs in slots, few heap objects; an executable reading of the loaded code. -/
namespace Go.Proofs.YtdhlgbnljhgabaaGreatDoor.AM
open Go

inductive AV where
  | undef | nilS | nilPtr | nilMap | nilFunc | nilIface
  | bool (b : Bool)
  | int (k : IntKind) (n : Int)
  | str (s : List UInt8)
  | list (cells : List AV) (n : Nat)
  | own (id n : Nat)
  | ptr (id off : Nat)
  | rptr (id off n : Nat)
  | fptr (cells : List AV) (off : Nat)
  | lvar (cells : List AV)
  | lptr (slot off : Nat)
  | map (id : Nat)
  | fmap (kvs : List AV)
  | func (fn : Fn) (first cap : List AV)
  | iface (t : TypeId) (v : AV)
  | agg (cells : List AV)
  | tuple (vs : List AV)

instance : Inhabited AV := ⟨.undef⟩

inductive AObj where
  | var (cells : List AV)
  | row (ro p : Bool) (e sz : Nat) (cells : List AV)
  | map (kvs : List AV)
  | siter (s : List UInt8) (pos : Nat)

abbrev Hp := List AObj

structure St where
  t : List AV
  H : Hp
  base : Nat

inductive Opd where
  | tmp (i : Nat)
  | c (v : AV)

/-- How an index or a slice expression reads its operand. -/
inductive XK where
  | str
  | sl (sz : Nat)
  | arr (len sz : Nat)

inductive CK where
  | int (k : IntKind) | s2b (e : Nat) | b2s | i2s | same

inductive AOp where
  | move (x : Opd)
  | pick (c a b : Opd)
  | allocL (z : List AV)
  | allocH (z : List AV) (rows : List (Nat × Nat × Nat))
  | boxL (x : Opd)
  | boxH (x : Opd) (rows : List (Nat × Nat × Nat))
  | newRow (e sz : Nat)
  | mk (z : List AV) (parts : List (Nat × Nat × Opd))
  | mkList (sz n : Nat) (z : List AV) (parts : List (Nat × Opd))
  | mkRow (e sz n : Nat) (z : List AV) (parts : List (Nat × Opd))
  | load (sz : Nat) (ag : Bool) (a : Opd)
  | store (sz : Nat) (a x : Opd)
  | nilCheck (x : Opd)
  | bin (op : BinOp) (ty : Nat) (x y : Opd)
  | eqAgg (neg : Bool) (ks : List Nat) (x y : Opd)
  | un (op : UnOp) (x : Opd)
  | conv (k : CK) (x : Opd)
  | mkIface (t : TypeId) (x : Opd)
  | mkFunc (fn : Fn) (first cap : List Opd)
  | mkMap
  | mapUpd (m k v : Opd)
  | lookup (z : AV) (ok : Bool) (m k : Opd)
  | makeRow (e sz bytes : Nat) (z : List AV) (len : Opd)
  | slice (k : XK) (x : Opd) (lo hi : Option Opd)
  | fieldAddr (off : Nat) (x : Opd)
  | field (off sz : Nat) (ag : Bool) (x : Opd)
  | indexAddr (k : XK) (x i : Opd)
  | index (k : XK) (ag : Bool) (x i : Opd)
  | extract (x : Opd) (i : Nat)
  | len (st : Bool) (x : Opd)
  | mm (max : Bool) (xs : List Opd)
  | append (e sz bytes : Nat) (x y : Opd)
  | appendS (e : Nat) (x y : Opd)
  | call (f : Opd) (args : List Opd)
  | panic (x : Opd)
  | range (x : Opd)
  | next (x : Opd)

structure AOper where
  dst : Option Nat
  op : AOp
  guard : Option (Nat × Bool)

/-- An operation of a region that draws its order: the slot that it reads or writes, those that stand ahead of it in any order. -/
structure DOper where
  o : AOper
  slot : Option Nat
  pre : List Nat

inductive ACode where
  | skip
  | region (ops : List AOper)
  | draw (ops : List DOper)
  | seq (a b : ACode)
  | cond (c : Opd) (a b : ACode)
  | block (id : Nat) (b : ACode)
  | loop (live : List Bool) (b : ACode)
  | masked (b : ACode) (live : List Bool)
  | exit (id : Nat)
  | ret

inductive Ex where
  | normal | exit (id : Nat) | ret | panic (v : AV)

inductive Out where
  | ret (v : AV) | pan (v : AV)

inductive OpRes where
  | ok (v : AV) (s : St) | pan (v : AV) (H : Hp)

abbrev R := Option (Out × Hp)
abbrev Rho := Nat → List AV → Hp → R

mutual
/-- No heap object stands in it. -/
def pure : AV → Bool
  | .own .. | .ptr .. | .rptr .. | .lvar _ | .lptr .. | .map _ | .nilS | .undef => false
  | .func _ f c => pureL f && pureL c
  | .iface _ v => pure v
  | .agg cs => pureL cs
  | .tuple cs => pureL cs
  | _ => true
def pureL : List AV → Bool
  | [] => true
  | a :: l => pure a && pureL l
end

mutual
/-- Only heap objects below a number stand in it, and no slot. -/
def below (n : Nat) : AV → Bool
  | .own id _ | .ptr id _ | .rptr id _ _ | .map id => decide (id < n)
  | .lvar _ | .lptr .. => false
  | .func _ f c => belowL n f && belowL n c
  | .iface _ v => below n v
  | .agg cs => belowL n cs
  | .tuple cs => belowL n cs
  | _ => true
def belowL (n : Nat) : List AV → Bool
  | [] => true
  | a :: l => below n a && belowL n l
end

mutual
/-- No slot stands in it. -/
def noLp : AV → Bool
  | .lvar _ | .lptr .. => false
  | .func _ f c => noLpL f && noLpL c
  | .iface _ v => noLp v
  | .agg cs => noLpL cs
  | .tuple cs => noLpL cs
  | _ => true
def noLpL : List AV → Bool
  | [] => true
  | a :: l => noLp a && noLpL l
end

/-- The value of one cell. -/
def cell1 : AV → Bool
  | .undef | .lvar _ | .agg _ | .tuple _ | .lptr .. => false
  | .func _ f c => noLpL f && noLpL c
  | .iface _ v => noLp v
  | _ => true

def cell1L (l : List AV) : Bool := l.all cell1

def AV.cells : AV → List AV
  | .agg c => c
  | v => [v]

def ev (t : List AV) : Opd → AV
  | .tmp i => match t.getD i .undef with
    | .lvar _ => .lptr i 0
    | a => a
  | .c v => v

def rd (c : List AV) (off sz : Nat) (ag : Bool) : Option AV :=
  if ag then (if off + sz ≤ c.length then some (.agg ((c.drop off).take sz)) else none) else c[off]?

def wrL : List AV → Nat → List AV → List AV
  | c, _, [] => c
  | c, off, v :: vs => wrL (c.set off v) (off + 1) vs

def wr (c : List AV) (off : Nat) (vs : List AV) : Option (List AV) :=
  if off + vs.length ≤ c.length then some (wrL c off vs) else none

def fillP (cells : List AV) : List (Nat × Nat × AV) → Option (List AV)
  | [] => some cells
  | (off, sz, v) :: rest =>
    if v.cells.length = sz ∧ off + sz ≤ cells.length ∧ cell1L v.cells then fillP (wrL cells off v.cells) rest else none

def repZ (z : List AV) : Nat → List AV
  | 0 => []
  | n + 1 => z ++ repZ z n

mutual
def frzV (base : Nat) (g : Nat → Option (List AV)) (H : Hp) : AV → Option AV
  | .undef | .lvar _ | .lptr .. => none
  | .nilS => some (.list [] 0)
  | .own id n => if id < base then some (.own id n) else
    match H[id]? with
    | some (.row _ true _ sz c) => if n * sz = c.length then some (.list c n) else none
    | _ => none
  | .ptr id off => if id < base then some (.ptr id off) else (g id).map fun c => .fptr c off
  | .rptr id off n => if id < base then some (.rptr id off n) else none
  | .map id => if id < base then some (.map id) else
    match H[id]? with
    | some (.map kvs) => some (.fmap kvs)
    | _ => none
  | .func fn f c => (frzL base g H f).bind fun f => (frzL base g H c).map fun c => .func fn f c
  | .iface t v => (frzV base g H v).map fun v => .iface t v
  | .agg cs => (frzL base g H cs).map .agg
  | .tuple cs => (frzL base g H cs).map .tuple
  | a => some a
def frzL (base : Nat) (g : Nat → Option (List AV)) (H : Hp) : List AV → Option (List AV)
  | [] => some []
  | a :: l => (frzV base g H a).bind fun a => (frzL base g H l).map fun l => a :: l
end

def frzO (base : Nat) (H : Hp) : Nat → Nat → Option (List AV)
  | 0, _ => none
  | n + 1, id => match H[id]? with
    | some (.var cells) => (frzL base (frzO base H n) H cells).bind fun c => if pureL c then some c else none
    | _ => none

def freeze (base : Nat) (H : Hp) (v : AV) : Option AV := frzV base (frzO base H 8) H v

mutual
/-- What may be handed on as it is. -/
def plain : AV → Bool
  | .own .. | .rptr .. | .lvar _ | .lptr .. | .nilS | .undef => false
  | .func _ f c => plainL f && plainL c
  | .iface _ v => plain v
  | .agg cs => plainL cs
  | .tuple cs => plainL cs
  | _ => true
def plainL : List AV → Bool
  | [] => true
  | a :: l => plain a && plainL l
end

def view1 (a : AV) (H : Hp) : Option (AV × Hp) :=
  match a with
  | .own id n => match H[id]? with
    | some (.row _ true e sz c) => if n * sz = c.length then some (.list c n, H.set id (.row true true e sz c)) else none
    | _ => none
  | .nilS => some (.list [] 0, H)
  | a => if plain a then some (a, H) else none

def view1L : List AV → Hp → Option (List AV × Hp)
  | [], H => some ([], H)
  | a :: l, H => (view1 a H).bind fun (a, H) => (view1L l H).map fun (l, H) => (a :: l, H)

def viewV (a : AV) (H : Hp) : Option (AV × Hp) :=
  match a with
  | .agg cs => (view1L cs H).map fun (cs, H) => (.agg cs, H)
  | a => view1 a H

def viewL : List AV → Hp → Option (List AV × Hp)
  | [], H => some ([], H)
  | a :: l, H => (viewV a H).bind fun (a, H) => (viewL l H).map fun (l, H) => (a :: l, H)

def isPtr : AV → Bool
  | .ptr .. | .fptr .. | .lptr .. => true
  | _ => false

def ptrC (op : BinOp) (ty : Nat) (b : Bool) : Option AV :=
  if ty = 2 then match op with
    | .eql => some (.bool b)
    | .neq => some (.bool !b)
    | _ => none
  else none

/-- ty: 1 of bools, 2 of pointers, 0 of others. -/
def binV (op : BinOp) (ty : Nat) (x y : AV) : Option AV :=
  match x, y with
  | .int k a, .int k' b =>
    match op with
    | .shl => if 0 ≤ b then some (.int k (k.wrap (a * 2 ^ (min b.toNat k.bits)))) else none
    | .shr => if 0 ≤ b then some (.int k (a.fdiv (2 ^ (min b.toNat k.bits)))) else none
    | .add => if k = k' then some (.int k (k.wrap (a + b))) else none
    | .sub => if k = k' then some (.int k (k.wrap (a - b))) else none
    | .mul => if k = k' then some (.int k (k.wrap (a * b))) else none
    | .quo => if k = k' ∧ b ≠ 0 then some (.int k (k.wrap (a.tdiv b))) else none
    | .rem => if k = k' ∧ b ≠ 0 then some (.int k (a.tmod b)) else none
    | .and => if k = k' then some (.int k (k.wrap (BitVec.ofInt k.bits a &&& BitVec.ofInt k.bits b).toNat)) else none
    | .or => if k = k' then some (.int k (k.wrap (BitVec.ofInt k.bits a ||| BitVec.ofInt k.bits b).toNat)) else none
    | .xor => if k = k' then some (.int k (k.wrap (BitVec.ofInt k.bits a ^^^ BitVec.ofInt k.bits b).toNat)) else none
    | .andNot => if k = k' then some (.int k (k.wrap (BitVec.ofInt k.bits a &&& ~~~ BitVec.ofInt k.bits b).toNat)) else none
    | .eql => if k = k' then some (.bool (a == b)) else none
    | .neq => if k = k' then some (.bool (a != b)) else none
    | .lss => if k = k' then some (.bool (decide (a < b))) else none
    | .leq => if k = k' then some (.bool (decide (a ≤ b))) else none
    | .gtr => if k = k' then some (.bool (decide (a > b))) else none
    | .geq => if k = k' then some (.bool (decide (a ≥ b))) else none
  | .str a, .str b =>
    match op with
    | .add => if ((a.length + b.length : Nat) : Int) ≤ 9223372036854775807 then some (.str (a ++ b)) else none
    | .eql => some (.bool (a == b))
    | .neq => some (.bool !(a == b))
    | .lss => some (.bool (Op.bytesLess a b))
    | .leq => some (.bool (Op.bytesLess a b || a == b))
    | .gtr => some (.bool !(Op.bytesLess a b || a == b))
    | .geq => some (.bool !(Op.bytesLess a b))
    | _ => none
  | .bool a, .bool b =>
    if ty = 1 then match op with
      | .eql => some (.bool (a == b))
      | .neq => some (.bool !(a == b))
      | _ => none
    else none
  | .nilPtr, y => match y with
    | .nilPtr => ptrC op ty true
    | y => if isPtr y then ptrC op ty false else none
  | x, .nilPtr => if isPtr x then ptrC op ty false else none
  | _, _ => none

/-- Are two leaves one? 0: whole numbers; 1: texts; 2: bools. -/
def eqLeaf (k : Nat) (x y : AV) : Option Bool :=
  match k, x, y with
  | 0, .int k a, .int l b => if k = l then some (a == b) else none
  | 1, .str a, .str b => some (a == b)
  | 2, .bool a, .bool b => some (a == b)
  | _, _, _ => none

def eqLeaves : List Nat → List AV → List AV → Option Bool
  | [], [], [] => some true
  | k :: ks, a :: l, b :: m => (eqLeaf k a b).bind fun r => (eqLeaves ks l m).map fun s => r && s
  | _, _, _ => none

def unV (op : UnOp) (x : AV) : Option AV :=
  match op, x with
  | .not, .bool b => some (.bool !b)
  | .neg, .int k n => some (.int k (k.wrap (0 - n)))
  | .xor, .int k n => some (.int k (k.wrap (BitVec.ofInt k.bits (if k.signed then -1 else k.max) ^^^ BitVec.ofInt k.bits n).toNat))
  | _, _ => none

def bytesOf : List AV → Option (List UInt8)
  | [] => some []
  | .int .u8 n :: l => (bytesOf l).map fun r => UInt8.ofNat n.toNat :: r
  | _ => none

def encB (l : List UInt8) : List AV := l.map fun b => .int .u8 (b.toNat : Int)

def convV (k : CK) (x : AV) (H : Hp) : Option AV :=
  match k, x with
  | .int k, .int _ n => some (.int k (k.wrap n))
  | .s2b _, .str s => some (.list (encB s) s.length)
  | .b2s, .list c n => if n = c.length then (bytesOf c).map .str else none
  | .b2s, .own id n => match H[id]? with
    | some (.row _ _ _ 1 c) => if n = c.length then (bytesOf c).map .str else none
    | _ => none
  | .b2s, .nilS => some (.str [])
  | .i2s, .int _ n => some (.str (Utf8.encode n).data.toList)
  | .same, .str s => some (.str s)
  | _, _ => none

def rowOf (H : Hp) (id n : Nat) : Option (Bool × Bool × Nat × Nat × List AV) :=
  match H[id]? with
  | some (.row ro p e sz c) => if n * sz = c.length then some (ro, p, e, sz, c) else none
  | _ => none

def lenV (st : Bool) (H : Hp) (x : AV) : Option AV :=
  match st, x with
  | true, .str s => some (.int .i64 s.length)
  | false, .list _ n => some (.int .i64 n)
  | false, .own id n => if (rowOf H id n).isSome then some (.int .i64 n) else none
  | false, .nilS => some (.int .i64 0)
  | _, _ => none

def lookupV (k : AV) : List AV → Option (Option AV)
  | [] => some none
  | a :: v :: r => (eqLeaf 1 k a).bind fun b => bif b then some (some v) else lookupV k r
  | _ => none

/-- What stands in a map. -/
def mapOf (H : Hp) : AV → Option (List AV)
  | .map id => match H[id]? with
    | some (.map kvs) => some kvs
    | _ => none
  | .fmap kvs => some kvs
  | .nilMap => some []
  | _ => none

/-- The bounds of a slice expression. -/
def bnd (d : Nat) (t : List AV) : Option Opd → Option Int
  | none => some d
  | some o => match ev t o with
    | .int _ n => some n
    | _ => none

def sliceV (k : XK) (x : AV) (l h : Int) : Option AV :=
  match k, x with
  | .str, .str s => if 0 ≤ l ∧ l ≤ h ∧ h ≤ s.length then some (.str ((s.drop l.toNat).take (h.toNat - l.toNat))) else none
  | .sl sz, .list c n => if 0 ≤ l ∧ l ≤ h ∧ h ≤ n ∧ h.toNat * sz ≤ c.length then some (.list ((c.drop (l.toNat * sz)).take ((h.toNat - l.toNat) * sz)) (h.toNat - l.toNat)) else none
  | .arr n sz, .fptr c off => if 0 ≤ l ∧ l ≤ h ∧ h ≤ n ∧ off + n * sz ≤ c.length then some (.list ((c.drop (off + l.toNat * sz)).take ((h.toNat - l.toNat) * sz)) (h.toNat - l.toNat)) else none
  | _, _ => none

def lenX (k : XK) (x : AV) : Nat :=
  match k, x with
  | .str, .str s => s.length
  | .sl _, .list _ n => n
  | .arr n _, _ => n
  | _, _ => 0

def offBy (H : Hp) (off : Nat) (x : AV) : Option AV :=
  match x with
  | .lptr t o => some (.lptr t (o + off))
  | .ptr id o => some (.ptr id (o + off))
  | .rptr id o n => if (rowOf H id n).isSome then some (.rptr id (o + off) n) else none
  | .fptr c o => some (.fptr c (o + off))
  | _ => none

def indexA (H : Hp) (k : XK) (x i : AV) : Option AV :=
  match i with
  | .int _ i => match k, x with
    | .sl sz, .list c n => if 0 ≤ i ∧ i < n then some (.fptr c (i.toNat * sz)) else none
    | .sl sz, .own id n => if 0 ≤ i ∧ i < n ∧ (rowOf H id n).isSome then some (.rptr id (i.toNat * sz) n) else none
    | .arr n sz, x => if 0 ≤ i ∧ i < n then offBy H (i.toNat * sz) x else none
    | _, _ => none
  | _ => none

def indexV (k : XK) (ag : Bool) (x i : AV) : Option AV :=
  match i with
  | .int _ i => match k, x with
    | .str, .str s => if 0 ≤ i then (s[i.toNat]?).map fun b => .int .u8 (b.toNat : Int) else none
    | .arr n sz, .agg c => if 0 ≤ i ∧ i < n then rd c (i.toNat * sz) sz ag else none
    | _, _ => none
  | _ => none

def mmV (mx : Bool) : AV → List AV → Option AV
  | x, [] => some x
  | .int k x, .int _ y :: r => mmV mx (.int k (bif mx then (if y > x then y else x) else (if y < x then y else x))) r
  | _, _ => none

/-- What is appended: how many, the cells, and whether no object stands in them. -/
def newCells (H : Hp) (sz : Nat) (y : AV) : Option (Nat × List AV × Bool) :=
  match y with
  | .list c n => if c.length = n * sz ∧ cell1L c then some (n, c, true) else none
  | .own id n => (rowOf H id n).bind fun r => if r.2.2.2.1 = sz then some (n, r.2.2.2.2, r.2.1) else none
  | .nilS => some (0, [], true)
  | _ => none

def noVar : AV → Bool
  | .lvar _ => false
  | _ => true

def withRows (z : List AV) (n : Nat) : List (Nat × Nat × Nat) → Option (List AV × List AObj)
  | [] => some (z, [])
  | (i, e, sz) :: r => match z[i]? with
    | some .nilS => (withRows (z.set i (.own n 0)) (n + 1) r).map fun (z, os) => (z, .row false true e sz [] :: os)
    | _ => none

def setH (s : St) (H : Hp) : St := { s with H }
def setT (s : St) (t : List AV) : St := { s with t }
def put (s : St) (d : Option Nat) (v : AV) : St := match d with | some d => { s with t := s.t.set d v } | none => s

def loadA (s : St) (sz : Nat) (ag : Bool) (a : AV) : Option AV :=
  match a with
  | .lptr t off => match s.t.getD t .undef with
    | .lvar c => rd c off sz ag
    | _ => none
  | .ptr id off => match s.H[id]? with
    | some (.var c) => rd c off sz ag
    | _ => none
  | .rptr id off n => (rowOf s.H id n).bind fun r => rd r.2.2.2.2 off sz ag
  | .fptr c off => rd c off sz ag
  | _ => none

def storeA (s : St) (sz : Nat) (a x : AV) : Option St :=
  let vs := x.cells
  if vs.length = sz ∧ cell1L vs then
    match a with
    | .lptr t off => match s.t.getD t .undef with
      | .lvar c => (wr c off vs).map fun c => setT s (s.t.set t (.lvar c))
      | _ => none
    | .ptr id off => match s.H[id]? with
      | some (.var c) => if id < s.base then (if belowL (id + 1) vs then (wr c off vs).map fun c => setH s (s.H.set id (.var c)) else none)
          else (wr c off vs).map fun c => setH s (s.H.set id (.var c))
      | _ => none
    | .rptr id off n => match rowOf s.H id n with
      | some (false, p, e, sz', c) => if pureL vs then (wr c off vs).map fun c => setH s (s.H.set id (.row false p e sz' c)) else none
      | _ => none
    | _ => none
  else none

def appendV (s : St) (e sz bytes : Nat) (x : AV) (m : Nat) (news : List AV) (pn : Bool) : Option OpRes :=
  match x with
  | .nilS => if m * bytes ≤ 140737488355328 then (if m = 0 then some (.ok .nilS s) else some (.ok (.own s.H.length m) (setH s (s.H ++ [.row false pn e sz news])))) else none
  | .own id n => match rowOf s.H id n with
    | some (ro, p, e', sz', c) =>
      if e' = e ∧ sz' = sz ∧ (n + m) * bytes ≤ 140737488355328 ∧ (id < s.base → (pn || belowL (id + 1) news) = true) then
        some (.ok (.own id (n + m)) (setH s (s.H.set id (.row ro (p && (pn || decide (m = 0))) e sz (c ++ news)))))
      else none
    | none => none
  | _ => none

def opA (ρ : Rho) (o : AOp) (d : Option Nat) (s : St) : Option OpRes :=
  let e := ev s.t
  let r (v : Option AV) : Option OpRes := v.map fun v => .ok v s
  match o with
  | .move x => some (.ok (e x) s)
  | .pick c a b => match e c with
    | .bool c => some (.ok (bif c then e a else e b) s)
    | _ => none
  | .allocL z => match d with
    | some d => if noVar (s.t.getD d .undef) ∧ d < s.t.length then some (.ok (.lvar z) s) else none
    | none => none
  | .boxL x => match d with
    | some d => if noVar (s.t.getD d .undef) ∧ d < s.t.length ∧ cell1L (e x).cells then some (.ok (.lvar (e x).cells) s) else none
    | none => none
  | .allocH z rows => (withRows z s.H.length rows).map fun (z, os) => .ok (.ptr (s.H.length + os.length) 0) (setH s (s.H ++ os ++ [.var z]))
  | .boxH x rows => if cell1L (e x).cells then (withRows (e x).cells s.H.length rows).map fun (z, os) => .ok (.ptr (s.H.length + os.length) 0) (setH s (s.H ++ os ++ [.var z])) else none
  | .newRow el sz => some (.ok (.own s.H.length 0) (setH s (s.H ++ [.row false true el sz []])))
  | .mk z ps => r ((fillP z (ps.map fun p => (p.1, p.2.1, e p.2.2))).map .agg)
  | .mkList sz n z ps => (fillP (repZ z n) (ps.map fun p => (p.1 * sz, sz, e p.2))).bind fun c => if pureL c ∧ cell1L c then some (.ok (.list c n) s) else none
  | .mkRow el sz n z ps => (fillP (repZ z n) (ps.map fun p => (p.1 * sz, sz, e p.2))).bind fun c => if cell1L c then some (.ok (.own s.H.length n) (setH s (s.H ++ [.row false (pureL c) el sz c]))) else none
  | .load sz ag a => r (loadA s sz ag (e a))
  | .store sz a x => (storeA s sz (e a) (e x)).map fun s => .ok (.tuple []) s
  | .nilCheck x => match e x with
    | .lptr t o => some (.ok (.lptr t o) s)
    | .ptr t o => some (.ok (.ptr t o) s)
    | .rptr t o n => if (rowOf s.H t n).isSome then some (.ok (.rptr t o n) s) else none
    | .fptr t o => some (.ok (.fptr t o) s)
    | .func (.func f) a b => some (.ok (.func (.func f) a b) s)
    | _ => none
  | .bin b ty x y => r (binV b ty (e x) (e y))
  | .eqAgg n ks x y => match e x, e y with
    | .agg a, .agg b => (eqLeaves ks a b).map fun q => .ok (.bool (bif n then !q else q)) s
    | _, _ => none
  | .un b x => r (unV b (e x))
  | .conv k x => r (convV k (e x) s.H)
  | .mkIface t x => r (some (.iface t (e x)))
  | .mkFunc fn f c => r (some (.func fn (f.map e) (c.map e)))
  | .mkMap => some (.ok (.map s.H.length) (setH s (s.H ++ [.map []])))
  | .mapUpd m k v => match e k, e m with
    | .str b, .map id => match s.H[id]? with
      | some (.map kvs) => match lookupV (.str b) kvs with
        | some none => if pure (e v) ∧ cell1 (e v) then some (.ok (.tuple []) (setH s (s.H.set id (.map (kvs ++ [.str b, e v]))))) else none
        | _ => none
      | _ => none
    | _, _ => none
  | .lookup z ok m k => match e k, mapOf s.H (e m) with
    | .str b, some kvs => match lookupV (.str b) kvs with
      | some (some v) => some (.ok (bif ok then .tuple [v, .bool true] else v) s)
      | some none => some (.ok (bif ok then .tuple [z, .bool false] else z) s)
      | none => none
    | _, _ => none
  | .makeRow el sz bytes z l => match e l with
    | .int _ n => if 0 ≤ n ∧ n ≤ 9223372036854775807 ∧ n.toNat * bytes ≤ 140737488355328 then
        some (.ok (.own s.H.length n.toNat) (setH s (s.H ++ [.row false true el sz (repZ z n.toNat)]))) else none
    | _ => none
  | .slice k x lo hi => match bnd 0 s.t lo with
    | some l => match bnd (lenX k (e x)) s.t hi with
      | some h => r (sliceV k (e x) l h)
      | none => none
    | none => none
  | .fieldAddr off x => r (offBy s.H off (e x))
  | .field off sz ag x => match e x with
    | .agg c => r (rd c off sz ag)
    | _ => none
  | .indexAddr k x i => r (indexA s.H k (e x) (e i))
  | .index k ag x i => r (indexV k ag (e x) (e i))
  | .extract x i => match e x with
    | .tuple vs => r (vs[i]?)
    | _ => none
  | .len st x => r (lenV st s.H (e x))
  | .mm m xs => match xs.map e with
    | x :: rest => r (mmV m x rest)
    | [] => none
  | .append el sz bytes x y => (newCells s.H sz (e y)).bind fun q => appendV s el sz bytes (e x) q.1 q.2.1 q.2.2
  | .appendS el x y => match e y with
    | .str b => appendV s el 1 1 (e x) b.length (encB b) true
    | _ => none
  | .call f as => match e f with
    | .func (.func g) first cap => (viewL (first ++ as.map e ++ cap) s.H).bind fun (args, H) =>
      match ρ g args H with
      | some (.ret v, H) => some (.ok v (setH s H))
      | some (.pan v, H) => some (.pan v H)
      | none => none
    | _ => none
  | .panic x => match e x with
    | .iface t v => if pure v then some (.pan (.iface t v) s.H) else none
    | _ => none
  | .range x => match e x with
    | .str b => some (.ok (.ptr s.H.length 0) (setH s (s.H ++ [.siter b 0])))
    | _ => none
  | .next x => match e x with
    | .ptr id 0 => match s.H[id]? with
      | some (.siter b pos) =>
        if pos < b.length then
          let q := Utf8.decode ⟨b.toArray⟩ pos
          some (.ok (.tuple [.bool true, .int .i64 pos, .int .i32 q.1]) (setH s (s.H.set id (.siter b (pos + q.2)))))
        else some (.ok (.tuple [.bool false]) s)
      | _ => none
    | _ => none

/-- Is an operation wanted, by its guard? -/
def want (t : List AV) : Option (Nat × Bool) → Option Bool
  | none => some true
  | some (i, w) => match t.getD i .undef with
    | .bool b => some (b == w)
    | .tuple [] => some false
    | _ => none

def ops (ρ : Rho) : List AOper → St → (St → R) → (AV → Hp → R) → R
  | [], s, k, _ => k s
  | o :: os, s, k, kp =>
    match want s.t o.guard with
    | some w => bif w then
        match opA ρ o.op o.dst s with
        | some (.ok v s) => ops ρ os (put s o.dst v) k kp
        | some (.pan v H) => kp v H
        | none => none
      else ops ρ os (put s o.dst (.tuple [])) k kp
    | none => none

mutual
def beq : AV → AV → Bool
  | .undef, .undef | .nilS, .nilS | .nilPtr, .nilPtr | .nilMap, .nilMap | .nilFunc, .nilFunc | .nilIface, .nilIface => true
  | .bool a, .bool b => a == b
  | .int k a, .int l b => decide (k = l) && decide (a = b)
  | .str a, .str b => decide (a = b)
  | .list a n, .list b m => beqL a b && decide (n = m)
  | .own a n, .own b m => decide (a = b) && decide (n = m)
  | .ptr a n, .ptr b m => decide (a = b) && decide (n = m)
  | .rptr a n x, .rptr b m y => decide (a = b) && decide (n = m) && decide (x = y)
  | .fptr a n, .fptr b m => beqL a b && decide (n = m)
  | .lvar a, .lvar b => beqL a b
  | .lptr a n, .lptr b m => decide (a = b) && decide (n = m)
  | .map a, .map b => decide (a = b)
  | .fmap a, .fmap b => beqL a b
  | .func f a c, .func g b d => decide (f = g) && beqL a b && beqL c d
  | .iface t a, .iface u b => decide (t = u) && beq a b
  | .agg a, .agg b => beqL a b
  | .tuple a, .tuple b => beqL a b
  | _, _ => false
def beqL : List AV → List AV → Bool
  | [], [] => true
  | a :: l, b :: m => beq a b && beqL l m
  | _, _ => false
end

def heapyV : AV → Bool
  | .ptr .. | .rptr .. | .own .. => true
  | _ => false

/-- Does a quiet operation hang on the heap? -/
def isH (t : List AV) : AOp → Bool
  | .load _ _ a | .nilCheck a | .fieldAddr _ a | .len _ a | .indexAddr _ a _ | .conv _ a => heapyV (ev t a)
  | _ => false

/-- Does an operation change the heap or a slot, or hang on the heap? -/
def isC : AOp → Bool
  | .allocH .. | .boxH .. | .newRow .. | .mkRow .. | .store .. | .mkMap | .mapUpd .. | .lookup .. | .makeRow .. | .append .. | .appendS .. | .call .. | .panic _ | .range _ | .next _ => true
  | _ => false

/-- A quiet operation that hangs on the heap, and what it came to. -/
structure Ld where
  op : AOp
  d : Option Nat
  s : St
  v : AV

def again (ρ : Rho) (H : Hp) (q : Ld) : Bool :=
  match opA ρ q.op q.d (setH q.s H) with
  | some (.ok w _) => beq w q.v
  | _ => false

/-- Those that were done ahead of a changing operation which might stand ahead of them. -/
def againL (ρ : Rho) (H : Hp) (pre : List Nat) : List (Nat × Ld) → Bool
  | [] => true
  | (i, q) :: l => (pre.contains i || again ρ H q) && againL ρ H pre l

def againS (ρ : Rho) (pre : List Nat) (q : Ld) : List (Nat × Hp) → Bool
  | [] => true
  | (j, H) :: l => (pre.contains j || again ρ H q) && againS ρ pre q l

def allPre (j : Nat) : List DOper → Bool
  | [] => true
  | o :: l => o.pre.contains j && allPre j l

/-- Does a pointer into a slot lead where it is said to? -/
def slotOK (t : List AV) (o : DOper) : Bool :=
  match o.o.op with
  | .load _ _ a => match ev t a with
    | .lptr x _ => o.slot == some x
    | _ => true
  | .store _ a _ => match ev t a with
    | .lptr x _ => o.slot == some x
    | _ => true
  | _ => true

def opsD (ρ : Rho) : List DOper → Nat → List (Nat × Ld) → List (Nat × Hp) → St → (St → R) → (AV → Hp → R) → R
  | [], _, _, _, s, k, _ => k s
  | o :: os, i, ld, sn, s, k, kp =>
    match want s.t o.o.guard with
    | some w => bif w then
        bif slotOK s.t o then
          match opA ρ o.o.op o.o.dst s with
          | some (.ok v s') =>
            bif isC o.o.op then
              bif againL ρ s'.H o.pre ld then opsD ρ os (i + 1) ld ((i, s.H) :: sn) (put s' o.o.dst v) k kp else none
            else bif isH s.t o.o.op then
              bif againS ρ o.pre ⟨o.o.op, o.o.dst, s, v⟩ sn then opsD ρ os (i + 1) ((i, ⟨o.o.op, o.o.dst, s, v⟩) :: ld) sn (put s' o.o.dst v) k kp else none
            else opsD ρ os (i + 1) ld sn (put s' o.o.dst v) k kp
          | some (.pan v H) => bif allPre i os then kp v H else none
          | none => none
        else none
      else opsD ρ os (i + 1) ld sn (put s o.o.dst (.tuple [])) k kp
    | none => none

def keepA (a : AV) : AV :=
  match a with
  | .lvar c => .lvar c
  | a => bif noLp a then a else .undef

def mask : List Bool → List AV → List AV
  | b :: l, a :: t => (bif b then keepA a else .undef) :: mask l t
  | _, t => t.map fun _ => .undef

/-- What the live slots hold, without the objects that a round has made. -/
def truncV (n : Nat) (H : Hp) (a : AV) : Option AV :=
  match a with
  | .undef => some .undef
  | .lvar c => if belowL n c then some (.lvar c) else none
  | .nilS => some .nilS
  | a => freeze n H a

def truncL (n : Nat) (H : Hp) : List AV → Option (List AV)
  | [] => some []
  | a :: l => (truncV n H a).bind fun a => (truncL n H l).map fun l => a :: l

def trunc (n : Nat) (s : St) : Option St :=
  if s.H.length = n then some s else (truncL n s.H s.t).map fun t => { s with t, H := s.H.take n }

def loopN (body : St → (Ex → St → R) → R) (live : List Bool) (k : Ex → St → R) : Nat → St → R
  | 0, _ => none
  | n + 1, s => body s fun e s' => match e with
    | .normal => match trunc s.base { s' with t := mask live s'.t } with
      | some s' => loopN body live k n s'
      | none => none
    | e => k e s'

def exec (ρ : Rho) (N : Nat) : ACode → St → (Ex → St → R) → R
  | .skip, s, k => k .normal s
  | .region os, s, k => ops ρ os s (fun s => k .normal s) fun v H => k (.panic v) (setH s H)
  | .draw os, s, k => opsD ρ os 0 [] [] s (fun s => k .normal s) fun v H => k (.panic v) (setH s H)
  | .seq a b, s, k => exec ρ N a s fun e s => match e with
    | .normal => exec ρ N b s k
    | e => k e s
  | .cond c a b, s, k => match ev s.t c with
    | .bool c => bif c then exec ρ N a s k else exec ρ N b s k
    | _ => none
  | .block id b, s, k => exec ρ N b s fun e s => match e with
    | .exit i => bif i == id then k .normal s else k (.exit i) s
    | e => k e s
  | .loop live b, s, k => loopN (fun s k => exec ρ N b s k) live (fun e s' => k e { s' with base := s.base }) N { s with t := mask live s.t, base := s.H.length }
  | .masked b live, s, k => exec ρ N b s fun e s => match e with
    | .normal => k .normal { s with t := mask live s.t }
    | e => k e s
  | .exit i, s, k => k (.exit i) s
  | .ret, s, k => k .ret s

inductive Res where
  | tmp (i : Nat)
  | cell (i sz : Nat) (ag : Bool)

structure AFun where
  n : Nat
  res : List Res
  body : ACode
  keep : Bool

def resV (s : St) : Res → Option AV
  | .tmp i => some (ev s.t (.tmp i))
  | .cell i sz ag => loadA s sz ag (ev s.t (.tmp i))

def resL (s : St) : List Res → Option (List AV)
  | [] => some []
  | r :: l => (resV s r).bind fun a => (resL s l).map fun l => a :: l

def one : List AV → AV
  | [a] => a
  | l => .tuple l

def fin (f : AFun) (base : Nat) (s : St) : R :=
  (resL s f.res).bind fun vs =>
    if f.keep then (if belowL s.H.length vs then some (.ret (one vs), s.H) else none)
    else (freeze base s.H (one vs)).map fun v => (.ret v, s.H.take base)

inductive Fun where
  | code (f : AFun)
  | prim (p : List AV → Hp → R)

def call (F : Nat → Option Fun) (N : Nat) : Nat → Rho
  | 0 => fun _ _ _ => none
  | d + 1 => fun f args H => match F f with
    | none => none
    | some (.prim p) => p args H
    | some (.code fn) => exec (call F N d) N fn.body ⟨args ++ List.replicate (fn.n - args.length) .undef, H, H.length⟩ fun e s => match e with
      | .normal => fin fn H.length s
      | .ret => fin fn H.length s
      | .panic v => if pure v then some (.pan v, s.H.take H.length) else none
      | .exit _ => none
end Go.Proofs.YtdhlgbnljhgabaaGreatDoor.AM

/- What the abstract machine's values and heaps say of real ones. -/
namespace Go.Proofs.YtdhlgbnljhgabaaGreatDoor.AM
open Go

structure Kz where
  n : Nat
  vb : Nat → Option Nat
  ver : Nat → Nat
  rv : Nat → Value
  fz : Nat → Option (List AV)
  fm : Nat → Option (List AV)
  sl : Nat → Option Nat

def nilv : Value := .slice none 0 0

def Win (c : List AV) (d : Nat) (cells : List AV) : Prop := ∃ p q, c = p ++ cells ++ q ∧ p.length = d

mutual
inductive Rep (K : Kz) : Value → AV → Prop
  | undef (v : Value) : Rep K v .undef
  | nilS : Rep K (.slice none 0 0) .nilS
  | nilPtr : Rep K (.pointer none) .nilPtr
  | nilMap : Rep K (.map none) .nilMap
  | nilFunc : Rep K .nilFunc .nilFunc
  | nilIface : Rep K .nilIface .nilIface
  | bool (b : Bool) : Rep K (.bool b) (.bool b)
  | int (k : IntKind) (n : Int) : Rep K (.int k n) (.int k n)
  | str (s : List UInt8) : Rep K (.string ⟨s.toArray⟩) (.str s)
  | list0 : Rep K (.slice none 0 0) (.list [] 0)
  | list (b off n cap : Nat) (c cells : List AV) (hf : K.fz b = some c) (hw : Win c off cells) (hc : n ≤ cap) : Rep K (.slice (some ⟨b, off, none⟩) n cap) (.list cells n)
  | own (id n : Nat) (v : Value) (hd : id < K.n) (hn : n ≤ K.ver id) (hv : n = K.ver id → v = K.rv id) (ho : v.oneCell' = true) : Rep K v (.own id n)
  | ptr (id off b : Nat) (hb : K.vb id = some b) : Rep K (.pointer (some ⟨b, off, none⟩)) (.ptr id off)
  | rptr (id off n : Nat) (v : Value) (hd : id < K.n) (hn : n ≤ K.ver id) (hv : n = K.ver id → ∃ b cap, K.rv id = .slice (some ⟨b, 0, none⟩) n cap ∧ v = .pointer (some ⟨b, off, none⟩)) (ho : v.oneCell' = true) : Rep K v (.rptr id off n)
  | fptr (b d off : Nat) (c cells : List AV) (hf : K.fz b = some c) (hw : Win c d cells) : Rep K (.pointer (some ⟨b, d + off, none⟩)) (.fptr cells off)
  | lptr (s off b : Nat) (hb : K.sl s = some b) : Rep K (.pointer (some ⟨b, off, none⟩)) (.lptr s off)
  | map (id b : Nat) (hb : K.vb id = some b) : Rep K (.map (some b)) (.map id)
  | fmap (b : Nat) (kvs : List AV) (hf : K.fm b = some kvs) : Rep K (.map (some b)) (.fmap kvs)
  | func (fn : Fn) (vf vc : List Value) (f c : List AV) (hf : RepL K vf f) (hc : RepL K vc c) : Rep K (.func fn vf.toArray vc.toArray) (.func fn f c)
  | iface (t : TypeId) (v : Value) (a : AV) (h : Rep K v a) : Rep K (.iface t v) (.iface t a)
  | agg (vs : List Value) (as : List AV) (h : RepL K vs as) : Rep K (.agg vs.toArray) (.agg as)
  | tuple (vs : List Value) (as : List AV) (h : RepL K vs as) : Rep K (.tuple vs.toArray) (.tuple as)
inductive RepL (K : Kz) : List Value → List AV → Prop
  | nil : RepL K [] []
  | cons (v : Value) (a : AV) (vs : List Value) (as : List AV) (h : Rep K v a) (hl : RepL K vs as) : RepL K (v :: vs) (a :: as)
end

/-- What is known stays known. -/
structure KLe (K K' : Kz) : Prop where
  n : K.n ≤ K'.n
  vb : ∀ id b, K.vb id = some b → K'.vb id = some b
  ver : ∀ id, K.ver id ≤ K'.ver id
  rv : ∀ id, id < K.n → K'.ver id = K.ver id → K'.rv id = K.rv id
  fz : ∀ b c, K.fz b = some c → ∃ r, K'.fz b = some (c ++ r)
  fm : ∀ b c, K.fm b = some c → K'.fm b = some c
  sl : ∀ s b, K.sl s = some b → K'.sl s = some b

theorem KLe.refl (K : Kz) : KLe K K := ⟨Nat.le_refl _, fun _ _ h => h, fun _ => Nat.le_refl _, fun _ _ _ => rfl, fun _ c h => ⟨[], by simpa using h⟩, fun _ _ h => h, fun _ _ h => h⟩

theorem KLe.trans {A B C : Kz} (h : KLe A B) (k : KLe B C) : KLe A C where
  n := Nat.le_trans h.n k.n
  vb id b e := k.vb id b (h.vb id b e)
  ver id := Nat.le_trans (h.ver id) (k.ver id)
  rv id hd e := by
    have h1 := h.ver id
    have h2 := k.ver id
    have h3 := h.n
    rw [k.rv id (by omega) (by omega), h.rv id hd (by omega)]
  fz b c e := by
    obtain ⟨r, e1⟩ := h.fz b c e
    obtain ⟨q, e2⟩ := k.fz b _ e1
    exact ⟨r ++ q, by rw [e2, List.append_assoc]⟩
  fm b c e := k.fm b c (h.fm b c e)
  sl s b e := k.sl s b (h.sl s b e)

theorem Win.ext {c : List AV} {d : Nat} {cells : List AV} (h : Win c d cells) (r : List AV) : Win (c ++ r) d cells := by
  obtain ⟨p, q, e, l⟩ := h
  exact ⟨p, q ++ r, by rw [e]; simp, l⟩

mutual
theorem Rep.mono {K K' : Kz} (hK : KLe K K') : ∀ {v : Value} {a : AV}, Rep K v a → Rep K' v a
  | _, _, .undef v => .undef v
  | _, _, .nilS => .nilS
  | _, _, .nilPtr => .nilPtr
  | _, _, .nilMap => .nilMap
  | _, _, .nilFunc => .nilFunc
  | _, _, .nilIface => .nilIface
  | _, _, .bool b => .bool b
  | _, _, .int k n => .int k n
  | _, _, .str s => .str s
  | _, _, .list0 => .list0
  | _, _, .list b off n cap c cells hf hw hc => by
    obtain ⟨r, e⟩ := hK.fz b c hf
    exact .list b off n cap _ cells e (hw.ext r) hc
  | _, _, .own id n v hd hn hv ho => .own id n v (Nat.lt_of_lt_of_le hd hK.n) (Nat.le_trans hn (hK.ver id)) (fun e => by
    have h1 := hK.ver id
    rw [hv (by omega), hK.rv id hd (by omega)]) ho
  | _, _, .ptr id off b hb => .ptr id off b (hK.vb id b hb)
  | _, _, .rptr id off n v hd hn hv ho => .rptr id off n v (Nat.lt_of_lt_of_le hd hK.n) (Nat.le_trans hn (hK.ver id)) (fun e => by
    have h1 := hK.ver id
    obtain ⟨b, cap, e1, e2⟩ := hv (by omega)
    exact ⟨b, cap, by rw [hK.rv id hd (by omega), e1], e2⟩) ho
  | _, _, .fptr b d off c cells hf hw => by
    obtain ⟨r, e⟩ := hK.fz b c hf
    exact .fptr b d off _ cells e (hw.ext r)
  | _, _, .lptr s off b hb => .lptr s off b (hK.sl s b hb)
  | _, _, .map id b hb => .map id b (hK.vb id b hb)
  | _, _, .fmap b kvs hf => .fmap b kvs (hK.fm b kvs hf)
  | _, _, .func fn vf vc f c hf hc => .func fn vf vc f c (RepL.mono hK hf) (RepL.mono hK hc)
  | _, _, .iface t v a h => .iface t v a (Rep.mono hK h)
  | _, _, .agg vs as h => .agg vs as (RepL.mono hK h)
  | _, _, .tuple vs as h => .tuple vs as (RepL.mono hK h)
theorem RepL.mono {K K' : Kz} (hK : KLe K K') : ∀ {vs : List Value} {as : List AV}, RepL K vs as → RepL K' vs as
  | _, _, .nil => .nil
  | _, _, .cons v a vs as h hl => .cons v a vs as (Rep.mono hK h) (RepL.mono hK hl)
end

theorem RepL.length {K : Kz} {vs : List Value} {as : List AV} (h : RepL K vs as) : vs.length = as.length := by
  induction as generalizing vs with
  | nil => cases h; rfl
  | cons a as ih => cases h with | cons v _ vs _ h hl => simp [ih hl]

theorem RepL.get {K : Kz} {vs : List Value} {as : List AV} (h : RepL K vs as) : ∀ {i : Nat} {a : AV}, as[i]? = some a → ∃ v, vs[i]? = some v ∧ Rep K v a := by
  induction as generalizing vs with
  | nil => intro i a e; simp at e
  | cons a as ih =>
    cases h with
    | cons v _ vs _ h hl =>
      intro i b e
      cases i with
      | zero => simp at e; subst e; exact ⟨v, by simp, h⟩
      | succ i => simp at e; obtain ⟨u, e1, e2⟩ := ih hl e; exact ⟨u, by simpa using e1, e2⟩

theorem RepL.append {K : Kz} {vs ws : List Value} {as bs : List AV} (h : RepL K vs as) (k : RepL K ws bs) : RepL K (vs ++ ws) (as ++ bs) := by
  induction as generalizing vs with
  | nil => cases h; exact k
  | cons a as ih => cases h with | cons v _ vs _ h hl => exact .cons v a _ _ h (ih hl)

theorem RepL.take {K : Kz} {vs : List Value} {as : List AV} (h : RepL K vs as) (n : Nat) : RepL K (vs.take n) (as.take n) := by
  induction as generalizing vs n with
  | nil => cases h; simp; exact .nil
  | cons a as ih =>
    cases h with
    | cons v _ vs _ h hl =>
      cases n with
      | zero => simp; exact .nil
      | succ n => simp; exact .cons _ _ _ _ h (ih hl n)

theorem RepL.drop {K : Kz} {vs : List Value} {as : List AV} (h : RepL K vs as) (n : Nat) : RepL K (vs.drop n) (as.drop n) := by
  induction as generalizing vs n with
  | nil => cases h; simp; exact .nil
  | cons a as ih =>
    cases h with
    | cons v _ vs _ h hl =>
      cases n with
      | zero => simp; exact .cons _ _ _ _ h hl
      | succ n => simp; exact ih hl n

theorem RepL.set {K : Kz} {vs : List Value} {as : List AV} (h : RepL K vs as) (i : Nat) {v : Value} {a : AV} (hv : Rep K v a) : RepL K (vs.set i v) (as.set i a) := by
  induction as generalizing vs i with
  | nil => cases h; simp; exact .nil
  | cons b as ih =>
    cases h with
    | cons u _ vs _ h hl =>
      cases i with
      | zero => simp; exact .cons _ _ _ _ hv hl
      | succ i => simp; exact .cons _ _ _ _ h (ih hl i)

theorem RepL.one {K : Kz} {v : Value} {a : AV} (h : Rep K v a) : RepL K [v] [a] := .cons _ _ _ _ h .nil

/-- The lists' parts of an appended one. -/
theorem RepL.split {K : Kz} {vs : List Value} {as bs : List AV} (h : RepL K vs (as ++ bs)) : ∃ us ws, vs = us ++ ws ∧ RepL K us as ∧ RepL K ws bs := by
  induction as generalizing vs with
  | nil => exact ⟨[], vs, rfl, .nil, h⟩
  | cons a as ih =>
    cases h with
    | cons v _ vs _ h hl =>
      obtain ⟨us, ws, e, h1, h2⟩ := ih hl
      exact ⟨v :: us, ws, by simp [e], .cons _ _ _ _ h h1, h2⟩

/-- A change of what slots stand for touches no value in which no slot stands. -/
def Kz.withSl (K : Kz) (sl : Nat → Option Nat) : Kz := { K with sl }

mutual
theorem Rep.slots {K : Kz} (sl : Nat → Option Nat) : ∀ {v : Value} {a : AV}, Rep K v a → noLp a = true → Rep (K.withSl sl) v a
  | _, _, .undef v, _ => .undef v
  | _, _, .nilS, _ => .nilS
  | _, _, .nilPtr, _ => .nilPtr
  | _, _, .nilMap, _ => .nilMap
  | _, _, .nilFunc, _ => .nilFunc
  | _, _, .nilIface, _ => .nilIface
  | _, _, .bool b, _ => .bool b
  | _, _, .int k n, _ => .int k n
  | _, _, .str s, _ => .str s
  | _, _, .list0, _ => .list0
  | _, _, .list b off n cap c cells hf hw hc, _ => .list b off n cap c cells hf hw hc
  | _, _, .own id n v hd hn hv ho, _ => .own id n v hd hn hv ho
  | _, _, .ptr id off b hb, _ => .ptr id off b hb
  | _, _, .rptr id off n v hd hn hv ho, _ => .rptr id off n v hd hn hv ho
  | _, _, .fptr b d off c cells hf hw, _ => .fptr b d off c cells hf hw
  | _, _, .lptr s off b hb, h => by simp [noLp] at h
  | _, _, .map id b hb, _ => .map id b hb
  | _, _, .fmap b kvs hf, _ => .fmap b kvs hf
  | _, _, .func fn vf vc f c hf hc, h => by
    simp [noLp] at h
    exact .func fn vf vc f c (RepL.slots sl hf h.1) (RepL.slots sl hc h.2)
  | _, _, .iface t v a h, hn => by simp [noLp] at hn; exact .iface t v a (Rep.slots sl h hn)
  | _, _, .agg vs as h, hn => by simp [noLp] at hn; exact .agg vs as (RepL.slots sl h hn)
  | _, _, .tuple vs as h, hn => by simp [noLp] at hn; exact .tuple vs as (RepL.slots sl h hn)
theorem RepL.slots {K : Kz} (sl : Nat → Option Nat) : ∀ {vs : List Value} {as : List AV}, RepL K vs as → noLpL as = true → RepL (K.withSl sl) vs as
  | _, _, .nil, _ => .nil
  | _, _, .cons v a vs as h hl, hn => by
    simp [noLpL] at hn
    exact .cons v a vs as (Rep.slots sl h hn.1) (RepL.slots sl hl hn.2)
end

theorem Rep.one {K : Kz} {v : Value} {a : AV} (h : Rep K v a) (hc : cell1 a = true) : v.oneCell' = true := by
  cases h <;> first | rfl | assumption | (simp [cell1] at hc; done)

theorem Rep.cells {K : Kz} {v : Value} {a : AV} (h : Rep K v a) (hc : cell1L a.cells = true) : RepL K v.cells.toList a.cells := by
  cases h with
  | agg vs as h => simpa [Value.cells, AV.cells] using h
  | undef => simp [AV.cells, cell1L, cell1] at hc
  | tuple => simp [AV.cells, cell1L, cell1] at hc
  | own id n v hd hn hv ho =>
    have e : v.cells = #[v] := by cases v <;> first | rfl | (simp [Value.oneCell'] at ho; done)
    rw [e]
    exact .one (.own id n v hd hn hv ho)
  | rptr id off n v hd hn hv ho =>
    have e : v.cells = #[v] := by cases v <;> first | rfl | (simp [Value.oneCell'] at ho; done)
    rw [e]
    exact .one (.rptr id off n v hd hn hv ho)
  | _ => exact .one (by first | constructor <;> assumption | constructor)

theorem noLp_of_cell1 {a : AV} (h : cell1 a = true) : noLp a = true := by
  cases a <;> simp_all [cell1, noLp]

theorem noLpL_of_cell1L {l : List AV} (h : cell1L l = true) : noLpL l = true := by
  induction l with
  | nil => rfl
  | cons a l ih =>
    simp only [cell1L, List.all_cons, Bool.and_eq_true] at h
    simp only [noLpL, Bool.and_eq_true]
    exact ⟨noLp_of_cell1 h.1, ih h.2⟩

mutual
theorem noLp_of_pure : ∀ {a : AV}, pure a = true → noLp a = true
  | .func _ f c, h => by simp [AM.pure] at h; simp [noLp, noLpL_of_pureL h.1, noLpL_of_pureL h.2]
  | .iface _ v, h => by simp [AM.pure] at h; simp [noLp, noLp_of_pure h]
  | .agg cs, h => by simp [AM.pure] at h; simp [noLp, noLpL_of_pureL h]
  | .tuple cs, h => by simp [AM.pure] at h; simp [noLp, noLpL_of_pureL h]
  | .lvar _, h => by simp [AM.pure] at h
  | .lptr .., h => by simp [AM.pure] at h
  | .undef, _ | .nilS, _ | .nilPtr, _ | .nilMap, _ | .nilFunc, _ | .nilIface, _ | .bool _, _ | .int .., _ | .str _, _ | .list .., _ | .own .., _ | .ptr .., _ | .rptr .., _ | .fptr .., _ | .map _, _ | .fmap _, _ => rfl
theorem noLpL_of_pureL : ∀ {l : List AV}, pureL l = true → noLpL l = true
  | [], _ => rfl
  | a :: l, h => by simp [pureL] at h; simp [noLpL, noLp_of_pure h.1, noLpL_of_pureL h.2]
end

mutual
/-- What stands for itself wherever objects are: only frozen memory is asked. -/
theorem Rep.pure {K K' : Kz} (hfz : ∀ b c, K.fz b = some c → ∃ r, K'.fz b = some (c ++ r)) (hfm : ∀ b c, K.fm b = some c → K'.fm b = some c) :
    ∀ {v : Value} {a : AV}, Rep K v a → AM.pure a = true → Rep K' v a
  | _, _, .undef v, _ => .undef v
  | _, _, .nilS, h => by simp [AM.pure] at h
  | _, _, .nilPtr, _ => .nilPtr
  | _, _, .nilMap, _ => .nilMap
  | _, _, .nilFunc, _ => .nilFunc
  | _, _, .nilIface, _ => .nilIface
  | _, _, .bool b, _ => .bool b
  | _, _, .int k n, _ => .int k n
  | _, _, .str s, _ => .str s
  | _, _, .list0, _ => .list0
  | _, _, .list b off n cap c cells hf hw hc, _ => by
    obtain ⟨r, e⟩ := hfz b c hf
    exact .list b off n cap _ cells e (hw.ext r) hc
  | _, _, .own .., h => by simp [AM.pure] at h
  | _, _, .ptr .., h => by simp [AM.pure] at h
  | _, _, .rptr .., h => by simp [AM.pure] at h
  | _, _, .fptr b d off c cells hf hw, _ => by
    obtain ⟨r, e⟩ := hfz b c hf
    exact .fptr b d off _ cells e (hw.ext r)
  | _, _, .lptr .., h => by simp [AM.pure] at h
  | _, _, .map .., h => by simp [AM.pure] at h
  | _, _, .fmap b kvs hf, _ => .fmap b kvs (hfm b kvs hf)
  | _, _, .func fn vf vc f c hf hc, h => by
    simp [AM.pure] at h
    exact .func fn vf vc f c (RepL.pure hfz hfm hf h.1) (RepL.pure hfz hfm hc h.2)
  | _, _, .iface t v a h, hn => by simp [AM.pure] at hn; exact .iface t v a (Rep.pure hfz hfm h hn)
  | _, _, .agg vs as h, hn => by simp [AM.pure] at hn; exact .agg vs as (RepL.pure hfz hfm h hn)
  | _, _, .tuple vs as h, hn => by simp [AM.pure] at hn; exact .tuple vs as (RepL.pure hfz hfm h hn)
theorem RepL.pure {K K' : Kz} (hfz : ∀ b c, K.fz b = some c → ∃ r, K'.fz b = some (c ++ r)) (hfm : ∀ b c, K.fm b = some c → K'.fm b = some c) :
    ∀ {vs : List Value} {as : List AV}, RepL K vs as → pureL as = true → RepL K' vs as
  | _, _, .nil, _ => .nil
  | _, _, .cons v a vs as h hl, hn => by
    simp [pureL] at hn
    exact .cons v a vs as (Rep.pure hfz hfm h hn.1) (RepL.pure hfz hfm hl hn.2)
end

/-- The pairs of a map. -/
inductive MapRep (K : Kz) : List MapEntry → List AV → Prop
  | nil : MapRep K [] []
  | cons (e : MapEntry) (a b : AV) (es : List MapEntry) (as : List AV) (hk : Rep K e.key a) (hv : Rep K e.val b) (h : MapRep K es as) : MapRep K (e :: es) (a :: b :: as)

def ObjOK (K : Kz) (w : World) (id : Nat) : AObj → Prop
  | .var c => K.ver id = 0 ∧ K.rv id = nilv ∧ cell1L c = true ∧ ∃ b cs el, K.vb id = some b ∧ w.heap[b]? = some (.cells cs el (0, 0)) ∧ RepL K cs.toList c
  | .row _ p e sz c => K.vb id = none ∧ 0 < sz ∧ cell1L c = true ∧ (p = true → pureL c = true) ∧ ∃ xs, w.ownsRow 0 e sz (K.rv id) (K.ver id) xs ∧ RepL K xs c
  | .map kvs => K.ver id = 0 ∧ K.rv id = nilv ∧ pureL kvs = true ∧ ∃ b es clock, K.vb id = some b ∧ w.heap[b]? = some (.map es clock) ∧ MapRep K es.toList kvs
  | .siter s pos => K.ver id = 0 ∧ K.rv id = nilv ∧ ∃ b, K.vb id = some b ∧ w.heap[b]? = some (.stringIter ⟨s.toArray⟩ pos)

structure Inv (K : Kz) (H : Hp) (w : World) : Prop where
  n : K.n = H.length
  obj : ∀ id o, H[id]? = some o → ObjOK K w id o
  vbd : ∀ id b, K.vb id = some b → id < K.n
  verd : ∀ id, K.n ≤ id → K.ver id = 0 ∧ K.rv id = nilv
  fz : ∀ b c, K.fz b = some c → pureL c = true ∧ ∃ cs el fr, w.heap[b]? = some (.cells cs el fr) ∧ ∃ xs ys, cs.toList = xs ++ ys ∧ RepL K xs c
  fm : ∀ b kvs, K.fm b = some kvs → pureL kvs = true ∧ ∃ es clock, w.heap[b]? = some (.map es clock) ∧ MapRep K es.toList kvs
  injv : ∀ i j b, K.vb i = some b → K.vb j = some b → i = j
  injr : ∀ i j b, (K.rv i).ownBlock = some b → (K.rv j).ownBlock = some b → i = j
  vr : ∀ i j b, K.vb i = some b → (K.rv j).ownBlock ≠ some b
  vz : ∀ i b, K.vb i = some b → K.fz b = none ∧ K.fm b = none
  rz : ∀ i b c, (K.rv i).ownBlock = some b → K.fz b = some c → ∃ p e sz cells r, H[i]? = some (.row true p e sz cells) ∧ cells = c ++ r

/-- Blocks that belong to objects. -/
def Kz.owned (K : Kz) (b : Nat) : Prop := (∃ id, K.vb id = some b) ∨ ∃ id, (K.rv id).ownBlock = some b

/-- What has become of the world: all that is nobody's is as it was; what is somebody's now was so before, or is new. -/
structure Step (K : Kz) (w : World) (K' : Kz) (w' : World) : Prop where
  os : w'.os = w.os
  tape : w'.tape = w.tape
  output : w'.output = w.output
  size : w.heap.size ≤ w'.heap.size
  kept : ∀ b, b < w.heap.size → ¬ K.owned b → (∀ s, K.sl s ≠ some b) → w'.heap[b]? = w.heap[b]?
  owned : ∀ b, b < w.heap.size → K'.owned b → K.owned b
  sl : ∀ s b, K'.sl s = some b → K.sl s = some b ∨ w.heap.size ≤ b
  fz : ∀ b, b < w.heap.size → K.fz b = none → K'.fz b ≠ none → K.owned b
  fm : ∀ b, b < w.heap.size → K.fm b = none → K'.fm b ≠ none → K.owned b
  fzx : ∀ b c, b < w.heap.size → K.fz b = some c → ¬ K.owned b → K'.fz b = some c
end Go.Proofs.YtdhlgbnljhgabaaGreatDoor.AM

/- Frames: what slots hold, and how they are read and put. -/
namespace Go.Proofs.YtdhlgbnljhgabaaGreatDoor.AM
open Go

/-- What is known stays known, but for what slots stand for. -/
structure KL (K K' : Kz) : Prop where
  n : K.n ≤ K'.n
  vb : ∀ id b, K.vb id = some b → K'.vb id = some b
  ver : ∀ id, K.ver id ≤ K'.ver id
  rv : ∀ id, id < K.n → K'.ver id = K.ver id → K'.rv id = K.rv id
  fz : ∀ b c, K.fz b = some c → ∃ r, K'.fz b = some (c ++ r)
  fm : ∀ b c, K.fm b = some c → K'.fm b = some c

theorem KL.refl (K : Kz) : KL K K := ⟨Nat.le_refl _, fun _ _ h => h, fun _ => Nat.le_refl _, fun _ _ _ => rfl, fun _ c h => ⟨[], by simpa using h⟩, fun _ _ h => h⟩
theorem KL.trans {A B C : Kz} (h : KL A B) (k : KL B C) : KL A C where
  n := Nat.le_trans h.n k.n
  vb id b e := k.vb id b (h.vb id b e)
  ver id := Nat.le_trans (h.ver id) (k.ver id)
  rv id hd e := by
    have h1 := h.ver id
    have h2 := k.ver id
    have h3 := h.n
    rw [k.rv id (by omega) (by omega), h.rv id hd (by omega)]
  fz b c e := by
    obtain ⟨r, e1⟩ := h.fz b c e
    obtain ⟨q, e2⟩ := k.fz b _ e1
    exact ⟨r ++ q, by rw [e2, List.append_assoc]⟩
  fm b c e := k.fm b c (h.fm b c e)
theorem KL.le {K K' : Kz} (h : KL K K') (hs : ∀ s b, K.sl s = some b → K'.sl s = some b) : KLe K K' := ⟨h.n, h.vb, h.ver, h.rv, h.fz, h.fm, hs⟩
theorem KLe.kl {K K' : Kz} (h : KLe K K') : KL K K' := ⟨h.n, h.vb, h.ver, h.rv, h.fz, h.fm⟩
theorem KL.rep {K K' : Kz} (h : KL K K') {v : Value} {a : AV} (hr : Rep K v a) (hn : noLp a = true) : Rep K' v a :=
  Rep.mono (K := K.withSl K'.sl) ⟨h.n, h.vb, h.ver, h.rv, h.fz, h.fm, fun _ _ e => e⟩ (Rep.slots K'.sl hr hn)
theorem KL.repL {K K' : Kz} (h : KL K K') {v : List Value} {a : List AV} (hr : RepL K v a) (hn : noLpL a = true) : RepL K' v a :=
  RepL.mono (K := K.withSl K'.sl) ⟨h.n, h.vb, h.ver, h.rv, h.fz, h.fm, fun _ _ e => e⟩ (RepL.slots K'.sl hr hn)

theorem Step.refl (K : Kz) (w : World) : Step K w K w :=
  ⟨rfl, rfl, rfl, Nat.le_refl _, fun _ _ _ _ => rfl, fun _ _ h => h, fun _ _ h => .inl h, fun _ _ h k => absurd h k, fun _ _ h k => absurd h k, fun _ _ _ h _ => h⟩

theorem Step.trans {K0 K1 K2 : Kz} {w0 w1 w2 : World} (h : Step K0 w0 K1 w1) (k : Step K1 w1 K2 w2) : Step K0 w0 K2 w2 where
  os := k.os.trans h.os
  tape := k.tape.trans h.tape
  output := k.output.trans h.output
  size := Nat.le_trans h.size k.size
  kept b hb ho hs := by
    have e1 := h.kept b hb ho hs
    have e2 := k.kept b (Nat.lt_of_lt_of_le hb h.size) (fun o => ho (h.owned b hb o)) fun s e => by
      rcases h.sl s b e with q | q
      · exact hs s q
      · omega
    rw [e2, e1]
  owned b hb o := h.owned b hb (k.owned b (Nat.lt_of_lt_of_le hb h.size) o)
  sl s b e := by
    rcases k.sl s b e with q | q
    · exact h.sl s b q
    · exact .inr (Nat.le_trans h.size q)
  fz b hb e n := by
    by_cases q : K1.fz b = none
    · exact h.owned b hb (k.fz b (Nat.lt_of_lt_of_le hb h.size) q n)
    · exact h.fz b hb e q
  fm b hb e n := by
    by_cases q : K1.fm b = none
    · exact h.owned b hb (k.fm b (Nat.lt_of_lt_of_le hb h.size) q n)
    · exact h.fm b hb e q
  fzx b c hb e n := k.fzx b c (Nat.lt_of_lt_of_le hb h.size) (h.fzx b c hb e n) fun o => n (h.owned b hb o)

def TmpOK (K : Kz) (w : World) (i : Nat) (v : Value) (a : AV) : Prop :=
  match a with
  | .lvar c => ∃ b cs el, K.sl i = some b ∧ v = .pointer (some ⟨b, 0, none⟩) ∧ w.heap[b]? = some (.cells cs el (0, 0)) ∧ RepL K cs.toList c ∧ cell1L c = true
  | a => Rep K v a

/-- Objects below the base name none from the base on. -/
def BaseOK (H : Hp) (base : Nat) : Prop := ∀ id c, id < base → (H[id]? = some (.var c) → belowL base c = true) ∧ (∀ ro e sz, H[id]? = some (.row ro false e sz c) → belowL base c = true)

structure StRel (S : Nat → Bool) (K : Kz) (s : St) (a : Act) (w : World) : Prop where
  inv : Inv K s.H w
  d : a.defers = []
  len : a.tmps.size = s.t.length
  tmp : ∀ i, TmpOK K w i (a.tmps.getD i undef) (s.t.getD i .undef)
  sl : ∀ i b, K.sl i = some b → (∃ c, s.t.getD i .undef = .lvar c) ∧ (∀ j, K.vb j ≠ some b) ∧ (∀ j, (K.rv j).ownBlock ≠ some b) ∧ K.fz b = none ∧ K.fm b = none
  sli : ∀ i j b, K.sl i = some b → K.sl j = some b → i = j
  nos : ∀ i, S i = false → noVar (s.t.getD i .undef) = true
  base : s.base ≤ s.H.length
  bok : BaseOK s.H s.base

theorem TmpOK.rep {K : Kz} {w : World} {i : Nat} {v : Value} {a : AV} (h : TmpOK K w i v a) (hn : noVar a = true) : Rep K v a := by
  cases a <;> first | exact h | simp [noVar] at hn

theorem tmpOK_of_rep {K : Kz} {w : World} {i : Nat} {v : Value} {a : AV} (h : Rep K v a) : TmpOK K w i v a := by
  cases a <;> first | exact h | cases h

theorem noVar_of_rep {K : Kz} {v : Value} {a : AV} (h : Rep K v a) : noVar a = true := by
  cases h <;> rfl

theorem getD_put (l : List AV) (d i : Nat) (v : AV) : (l.set d v).getD i .undef = if d = i ∧ d < l.length then v else l.getD i .undef := by
  simp only [List.getD_eq_getElem?_getD, List.getElem?_set]
  by_cases h : d = i
  · subst h
    by_cases hl : d < l.length
    · simp [hl]
    · simp [hl]
  · simp [h]

theorem getD_putA (l : Array Value) (d i : Nat) (v : Value) : (l.setIfInBounds d v).getD i undef = if d = i ∧ d < l.size then v else l.getD i undef := by
  simp only [Array.getD_eq_getD_getElem?, Array.getElem?_setIfInBounds]
  by_cases h : d = i
  · subst h
    by_cases hl : d < l.size
    · simp [hl]
    · simp [hl]
  · simp [h]

/-- A value is put into a slot that is none of a local struct's. -/
theorem StRel.put {S : Nat → Bool} {K : Kz} {s : St} {a : Act} {w : World} (h : StRel S K s a w) (d : Option Nat) (hd : ∀ x, d = some x → S x = false) {v' : Value} {v : AV} (hv : Rep K v' v) :
    StRel S K (AM.put s d v) (a.put d v') w := by
  cases d with
  | none => exact h
  | some d =>
    have hS := hd d rfl
    have hnv := noVar_of_rep hv
    refine ⟨h.inv, h.d, by simp [AM.put, Act.put, h.len], fun i => ?_, fun i b e => ?_, h.sli, fun i hi => ?_, h.base, h.bok⟩
    · simp only [AM.put, Act.put, getD_put, getD_putA, h.len]
      split
      · exact tmpOK_of_rep hv
      · exact h.tmp i
    · obtain ⟨⟨c, hc⟩, r⟩ := h.sl i b e
      refine ⟨⟨c, ?_⟩, r⟩
      simp only [AM.put, getD_put]
      split
      · rename_i q
        obtain ⟨rfl, _⟩ := q
        have := h.nos d hS
        rw [hc] at this
        simp [noVar] at this
      · exact hc
    · simp only [AM.put, getD_put]
      split
      · exact hnv
      · exact h.nos i hi

/-- A constant and its abstract value. -/
def vOK : Value → AV → Bool
  | .bool a, .bool b => a == b
  | .int k a, .int l b => decide (k = l) && decide (a = b)
  | .string s, .str t => decide (s.data.toList = t)
  | .slice none 0 0, .nilS => true
  | .slice none 0 0, .list [] 0 => true
  | .pointer none, .nilPtr => true
  | .map none, .nilMap => true
  | .nilFunc, .nilFunc => true
  | .nilIface, .nilIface => true
  | .func (.func f) x y, .func (.func g) [] [] => decide (f = g) && (decide (x.toList.length = 0) && decide (y.toList.length = 0))
  | _, _ => false

theorem vOK_rep {v : Value} {a : AV} (h : vOK v a = true) (K : Kz) : Rep K v a := by
  unfold vOK at h
  split at h <;> first | (simp at h; done) | skip
  all_goals (try simp only [beq_iff_eq, Bool.and_eq_true, decide_eq_true_eq] at h)
  · subst h; exact .bool _
  · obtain ⟨rfl, rfl⟩ := h; exact .int _ _
  · rename_i s t
    have e : s = ⟨t.toArray⟩ := by rw [← h]
    rw [e]; exact .str _
  · exact .nilS
  · exact .list0
  · exact .nilPtr
  · exact .nilMap
  · exact .nilFunc
  · exact .nilIface
  · obtain ⟨rfl, h1, h2⟩ := h
    have h1' := Array.toList_eq_nil_iff.1 (List.eq_nil_of_length_eq_zero h1)
    have h2' := Array.toList_eq_nil_iff.1 (List.eq_nil_of_length_eq_zero h2)
    subst h1' h2'
    exact .func _ [] [] [] [] .nil .nil

theorem vOK_noLp {v : Value} {a : AV} (h : vOK v a = true) : noLp a = true := by
  unfold vOK at h
  split at h <;> first | rfl | (simp at h; done)

theorem vOK_cell1 {v : Value} {a : AV} (h : vOK v a = true) : cell1 a = true := by
  unfold vOK at h
  split at h <;> first | rfl | (simp at h; done)

def vOKL : List Value → List AV → Bool
  | [], [] => true
  | v :: vs, a :: as => vOK v a && vOKL vs as
  | _, _ => false

theorem vOKL_rep {vs : List Value} {as : List AV} (h : vOKL vs as = true) (K : Kz) : RepL K vs as := by
  induction vs generalizing as with
  | nil => cases as with | nil => exact .nil | cons a as => simp [vOKL] at h
  | cons v vs ih =>
    cases as with
    | nil => simp [vOKL] at h
    | cons a as =>
      simp only [vOKL, Bool.and_eq_true] at h
      exact .cons _ _ _ _ (vOK_rep h.1 K) (ih h.2)

theorem vOKL_cell1 {vs : List Value} {as : List AV} (h : vOKL vs as = true) : cell1L as = true := by
  induction vs generalizing as with
  | nil => cases as with | nil => rfl | cons a as => simp [vOKL] at h
  | cons v vs ih =>
    cases as with
    | nil => simp [vOKL] at h
    | cons a as =>
      simp only [vOKL, Bool.and_eq_true] at h
      have := ih h.2
      simp only [cell1L, List.all_cons, Bool.and_eq_true] at this ⊢
      exact ⟨vOK_cell1 h.1, this⟩

def opdOK : Operand → Opd → Bool
  | .tmp i, .tmp j => decide (i = j)
  | .const v, .c a => vOK v a
  | .func f, .c (.func (.func g) [] []) => decide (f = g)
  | _, _ => false

theorem StRel.ev {S : Nat → Bool} {K : Kz} {s : St} {a : Act} {w : World} (h : StRel S K s a w) {x : Operand} {y : Opd} (hx : opdOK x y = true) : Rep K (a.eval x) (AM.ev s.t y) := by
  unfold opdOK at hx
  split at hx
  · rename_i i j
    simp only [decide_eq_true_eq] at hx
    subst hx
    have ht := h.tmp i
    simp only [Act.eval, AM.ev]
    cases hq : s.t.getD i .undef <;> rw [hq] at ht <;> simp only [TmpOK] at ht <;> first | exact ht | skip
    obtain ⟨b, cs, el, h1, h2, _⟩ := ht
    rw [h2]
    exact .lptr i 0 b h1
  · exact vOK_rep hx K
  · rename_i f g
    simp only [decide_eq_true_eq] at hx
    subst hx
    exact .func _ [] [] [] [] .nil .nil
  · simp at hx

def opdOKL : List Operand → List Opd → Bool
  | [], [] => true
  | x :: xs, y :: ys => opdOK x y && opdOKL xs ys
  | _, _ => false

theorem StRel.evL {S : Nat → Bool} {K : Kz} {s : St} {a : Act} {w : World} (h : StRel S K s a w) : ∀ {xs : List Operand} {ys : List Opd}, opdOKL xs ys = true → RepL K (xs.map a.eval) (ys.map (AM.ev s.t))
  | [], [], _ => .nil
  | x :: xs, y :: ys, hx => by
    simp only [opdOKL, Bool.and_eq_true] at hx
    exact .cons _ _ _ _ (h.ev hx.1) (StRel.evL h hx.2)
  | [], _ :: _, hx => by simp [opdOKL] at hx
  | _ :: _, [], hx => by simp [opdOKL] at hx

/-- How an operation is to be gone on with. -/
def OpW (P : Program) (o : Oper) (a : Act) (w : World) (G : Act → World → Prop) (Gp : Value → World → Prop) : Prop :=
  ∀ next Q, (∀ a' w', G a' w' → next a' w') → (∀ v w', Gp v w' → Q (.panic [{ v, recovered := false }]) a w') → o.wp P a w next Q

theorem OpW.value {P : Program} {o : Oper} {a : Act} {w w' : World} {v : Value} {G : Act → World → Prop} {Gp : Value → World → Prop}
    (hr : (execOp a.eval o).run P w = .ok (.value v) w') (h : G (a.put o.dst v) w') : OpW P o a w G Gp := by
  intro next Q hn _
  unfold Oper.wp
  rw [hr]
  exact hn _ _ h

theorem OpW.skip {P : Program} {o : Oper} {a : Act} {w w' : World} {G : Act → World → Prop} {Gp : Value → World → Prop}
    (hr : (execOp a.eval o).run P w = .ok .skip w') (h : G (a.put o.dst undef) w') : OpW P o a w G Gp := by
  intro next Q hn _
  unfold Oper.wp
  rw [hr]
  exact hn _ _ h

/-- What lies below a base names still nothing above it. -/
def Keeps (s s' : St) : Prop := s'.base = s.base ∧ ∀ b, b ≤ s.base → BaseOK s.H b → BaseOK s'.H b
theorem Keeps.refl (s : St) : Keeps s s := ⟨rfl, fun _ _ h => h⟩
theorem Keeps.trans {s s1 s2 : St} (h : Keeps s s1) (k : Keeps s1 s2) : Keeps s s2 := ⟨k.1.trans h.1, fun b hb q => k.2 b (by rw [h.1]; exact hb) (h.2 b hb q)⟩

/-- What an abstract outcome says of the real one. -/
def Done (S : Nat → Bool) (K : Kz) (w : World) (s : St) (d : Option Nat) (r : OpRes) (a' : Act) (w' : World) : Prop :=
  ∃ v s' K', r = .ok v s' ∧ KL K K' ∧ Step K w K' w' ∧ StRel S K' (put s' d v) a' w' ∧ Keeps s s'

def Pan (K : Kz) (w : World) (s : St) (r : OpRes) (pv : Value) (w' : World) : Prop :=
  ∃ v H K', r = .pan v H ∧ KL K K' ∧ Step K w K' w' ∧ Inv K' H w' ∧ Rep K' pv v ∧ Keeps s (setH s H)

/-- An operation that changes nothing. -/
theorem still {P : Program} {S : Nat → Bool} {K : Kz} {s : St} {a : Act} {w : World} {o : Oper} (h : StRel S K s a w) (hd : ∀ x, o.dst = some x → S x = false)
    {v' : Value} {v : AV} (hr : (execOp a.eval o).run P w = .ok (.value v') w) (hv : Rep K v' v) :
    OpW P o a w (Done S K w s o.dst (.ok v s)) (Pan K w s (.ok v s)) :=
  OpW.value hr ⟨v, s, K, rfl, KL.refl K, Step.refl K w, h.put o.dst hd hv, Keeps.refl s⟩
end Go.Proofs.YtdhlgbnljhgabaaGreatDoor.AM

/- What loads, stores and quiet operations do. -/
namespace Go.Proofs.YtdhlgbnljhgabaaGreatDoor.AM
open Go

/-- Blocks of which the relation speaks. -/
def Kz.tracked (K : Kz) (b : Nat) : Prop := K.owned b ∨ K.fz b ≠ none ∨ K.fm b ≠ none

theorem ownsRow_at {w w' : World} {e size : Nat} {v : Value} {n : Nat} {xs : List Value} (h : w.ownsRow 0 e size v n xs) (hb : ∀ b, v.ownBlock = some b → w'.heap[b]? = w.heap[b]?) : w'.ownsRow 0 e size v n xs := by
  refine ⟨h.1, ?_⟩
  rcases h.2 with q | ⟨g, cap, cur, e1, e2, e3, r⟩
  · exact .inl q
  · exact .inr ⟨g, cap, cur, e1, e2, by rw [hb g (by rw [e1]; rfl)]; exact e3, r⟩

theorem ObjOK.keep {K : Kz} {w w' : World} {id : Nat} {o : AObj} (h : ObjOK K w id o) (hv : ∀ b, K.vb id = some b → w'.heap[b]? = w.heap[b]?) (hr : ∀ b, (K.rv id).ownBlock = some b → w'.heap[b]? = w.heap[b]?) : ObjOK K w' id o := by
  cases o with
  | var c => obtain ⟨h1, h2, h3, b, cs, el, h4, h5, h6⟩ := h; exact ⟨h1, h2, h3, b, cs, el, h4, by rw [hv b h4]; exact h5, h6⟩
  | row ro p e sz c => obtain ⟨h1, h2, h3, h4, xs, h5, h6⟩ := h; exact ⟨h1, h2, h3, h4, xs, ownsRow_at h5 hr, h6⟩
  | map kvs => obtain ⟨h1, h2, h3, b, es, cl, h4, h5, h6⟩ := h; exact ⟨h1, h2, h3, b, es, cl, h4, by rw [hv b h4]; exact h5, h6⟩
  | siter s pos => obtain ⟨h1, h2, b, h4, h5⟩ := h; exact ⟨h1, h2, b, h4, by rw [hv b h4]; exact h5⟩

theorem Inv.keep {K : Kz} {H : Hp} {w w' : World} (h : Inv K H w) (hb : ∀ b, K.tracked b → w'.heap[b]? = w.heap[b]?) : Inv K H w' where
  n := h.n
  obj id o e := (h.obj id o e).keep (fun b q => hb b (.inl (.inl ⟨id, q⟩))) (fun b q => hb b (.inl (.inr ⟨id, q⟩)))
  vbd := h.vbd
  verd := h.verd
  fz b c e := by
    obtain ⟨h1, cs, el, fr, h2, r⟩ := h.fz b c e
    exact ⟨h1, cs, el, fr, by rw [hb b (.inr (.inl (by rw [e]; simp)))]; exact h2, r⟩
  fm b c e := by
    obtain ⟨h1, es, cl, h2, r⟩ := h.fm b c e
    exact ⟨h1, es, cl, by rw [hb b (.inr (.inr (by rw [e]; simp)))]; exact h2, r⟩
  injv := h.injv
  injr := h.injr
  vr := h.vr
  vz := h.vz
  rz := h.rz

theorem lt_of_heap {w : World} {b : Nat} {o : Obj} (h : w.heap[b]? = some o) : b < w.heap.size := (Array.getElem?_eq_some_iff.1 h).1

/-- What is spoken of is there. -/
theorem Inv.lt {K : Kz} {H : Hp} {w : World} (h : Inv K H w) {b : Nat} (ht : K.tracked b) : b < w.heap.size := by
  rcases ht with (⟨id, e⟩ | ⟨id, e⟩) | e | e
  · have hid := h.vbd id b e
    rw [h.n] at hid
    have ho := h.obj id _ (List.getElem?_eq_getElem hid)
    cases hq : H[id] with
    | var c => rw [hq] at ho; obtain ⟨_, _, _, b', cs, el, h4, h5, _⟩ := ho; rw [e] at h4; cases h4; exact lt_of_heap h5
    | row ro p e' sz c => rw [hq] at ho; obtain ⟨h1, _⟩ := ho; rw [e] at h1; cases h1
    | map kvs => rw [hq] at ho; obtain ⟨_, _, _, b', es, cl, h4, h5, _⟩ := ho; rw [e] at h4; cases h4; exact lt_of_heap h5
    | siter s pos => rw [hq] at ho; obtain ⟨_, _, b', h4, h5⟩ := ho; rw [e] at h4; cases h4; exact lt_of_heap h5
  · rcases Nat.lt_or_ge id H.length with hid | hid
    · have ho := h.obj id _ (List.getElem?_eq_getElem hid)
      cases hq : H[id] with
      | var c => rw [hq] at ho; obtain ⟨_, h2, _⟩ := ho; rw [h2] at e; simp [nilv, Value.ownBlock] at e
      | row ro p e' sz c => rw [hq] at ho; obtain ⟨_, _, _, _, xs, h5, _⟩ := ho; exact (h5.lt b e).2
      | map kvs => rw [hq] at ho; obtain ⟨_, h2, _⟩ := ho; rw [h2] at e; simp [nilv, Value.ownBlock] at e
      | siter s pos => rw [hq] at ho; obtain ⟨_, h2, _⟩ := ho; rw [h2] at e; simp [nilv, Value.ownBlock] at e
    · rw [(h.verd id (by rw [h.n]; exact hid)).2] at e
      simp [nilv, Value.ownBlock] at e
  · cases hq : K.fz b with
    | none => exact absurd hq e
    | some c => obtain ⟨_, cs, el, fr, h2, _⟩ := h.fz b c hq; exact lt_of_heap h2
  · cases hq : K.fm b with
    | none => exact absurd hq e
    | some c => obtain ⟨_, es, cl, h2, _⟩ := h.fm b c hq; exact lt_of_heap h2

theorem StRel.slot_lt {S : Nat → Bool} {K : Kz} {s : St} {a : Act} {w : World} (h : StRel S K s a w) {i b : Nat} (e : K.sl i = some b) : b < w.heap.size := by
  obtain ⟨⟨c, hc⟩, _⟩ := h.sl i b e
  have ht := h.tmp i
  rw [hc] at ht
  obtain ⟨b', cs, el, h1, _, h3, _⟩ := ht
  rw [e] at h1
  cases h1
  exact lt_of_heap h3

theorem StRel.keep {S : Nat → Bool} {K : Kz} {s : St} {a : Act} {w w' : World} (h : StRel S K s a w) (hb : ∀ b, b < w.heap.size → (K.tracked b ∨ ∃ i, K.sl i = some b) → w'.heap[b]? = w.heap[b]?) : StRel S K s a w' where
  inv := h.inv.keep fun b ht => hb b (h.inv.lt ht) (.inl ht)
  d := h.d
  len := h.len
  tmp i := by
    have ht := h.tmp i
    cases hq : s.t.getD i .undef <;> rw [hq] at ht <;> simp only [TmpOK] at ht ⊢ <;> first | exact ht | skip
    obtain ⟨b, cs, el, h1, h2, h3, r⟩ := ht
    exact ⟨b, cs, el, h1, h2, by rw [hb b (h.slot_lt h1) (.inr ⟨i, h1⟩)]; exact h3, r⟩
  sl := h.sl
  sli := h.sli
  nos := h.nos
  base := h.base
  bok := h.bok

theorem StRel.alloc {S : Nat → Bool} {K : Kz} {s : St} {a : Act} {w : World} (h : StRel S K s a w) (o : Obj) : StRel S K s a (w.alloc o) :=
  h.keep fun b hb _ => heap_alloc_old w o b hb

theorem StRel.drew {S : Nat → Bool} {K : Kz} {s : St} {a : Act} {w : World} (h : StRel S K s a w) : StRel S K s a w.drew :=
  h.keep fun _ _ _ => rfl

theorem Step.drew (K : Kz) (w : World) : Step K w K w.drew :=
  ⟨rfl, rfl, rfl, Nat.le_refl _, fun _ _ _ _ => rfl, fun _ _ h => h, fun _ _ h => .inl h, fun _ _ h k => absurd h k, fun _ _ h k => absurd h k, fun _ _ _ h _ => h⟩

/-- A block from whose head on cells are known. -/
def At (K : Kz) (w : World) (b : Nat) (c : List AV) : Prop :=
  ∃ cs el fr xs ys, w.heap[b]? = some (.cells cs el fr) ∧ cs.toList = xs ++ ys ∧ RepL K xs c

theorem At.of_all {K : Kz} {w : World} {b : Nat} {c : List AV} {cs : Array Value} {el : TypeId} {fr : Nat × Nat} (h : w.heap[b]? = some (.cells cs el fr)) (hr : RepL K cs.toList c) : At K w b c :=
  ⟨cs, el, fr, cs.toList, [], h, by simp, hr⟩

theorem Inv.at_fz {K : Kz} {H : Hp} {w : World} (h : Inv K H w) {b : Nat} {c : List AV} (e : K.fz b = some c) : At K w b c := by
  obtain ⟨_, cs, el, fr, h2, xs, ys, h3, h4⟩ := h.fz b c e
  exact ⟨cs, el, fr, xs, ys, h2, h3, h4⟩

theorem rd_win {c cells : List AV} {d off sz : Nat} {ag : Bool} {v : AV} (hw : Win c d cells) (h : rd cells off sz ag = some v) : rd c (d + off) sz ag = some v := by
  obtain ⟨p, q, rfl, rfl⟩ := hw
  unfold rd at h ⊢
  cases ag with
  | true =>
    simp only [if_true] at h ⊢
    split at h
    · rename_i hl
      rw [if_pos (by simp; omega)]
      simp only [Option.some.injEq] at h ⊢
      subst h
      congr 1
      rw [List.append_assoc, ← List.drop_drop, List.drop_left, List.drop_append_of_le_length (by omega), List.take_append_of_le_length (by simp; omega)]
    · simp at h
  | false =>
    simp only [Bool.false_eq_true, if_false] at h ⊢
    have hl : off < cells.length := by
      rcases Nat.lt_or_ge off cells.length with q | q
      · exact q
      · rw [List.getElem?_eq_none q] at h; simp at h
    rw [List.append_assoc, List.getElem?_append_right (by omega), List.getElem?_append_left (by omega)]
    rw [show p.length + off - p.length = off by omega]
    exact h

theorem rowOf_some {H : Hp} {id n : Nat} {r : Bool × Bool × Nat × Nat × List AV} (h : rowOf H id n = some r) : H[id]? = some (.row r.1 r.2.1 r.2.2.1 r.2.2.2.1 r.2.2.2.2) ∧ n * r.2.2.2.1 = r.2.2.2.2.length := by
  unfold rowOf at h
  split at h
  · split at h
    · simp only [Option.some.injEq] at h; subst h; exact ⟨by assumption, by assumption⟩
    · simp at h
  · simp at h

/-- The version of a row whose cells are so many. -/
theorem Inv.row_ver {K : Kz} {H : Hp} {w : World} (h : Inv K H w) {id n : Nat} {ro p : Bool} {e sz : Nat} {c : List AV} (hH : H[id]? = some (.row ro p e sz c)) (hn : n * sz = c.length) :
    n = K.ver id ∧ ∃ xs, w.ownsRow 0 e sz (K.rv id) n xs ∧ RepL K xs c ∧ 0 < sz := by
  obtain ⟨_, hsz, _, _, xs, h5, h6⟩ := h.obj id _ hH
  have e1 := h5.1
  have e2 := h6.length
  have : n = K.ver id := Nat.eq_of_mul_eq_mul_right hsz (by omega)
  subst this
  exact ⟨rfl, xs, h5, h6, hsz⟩

theorem ownsRow_at_block {w : World} {e sz : Nat} {v : Value} {n cap b : Nat} {xs : List Value} (h : w.ownsRow 0 e sz v n xs) (hv : v = .slice (some ⟨b, 0, none⟩) n cap) :
    ∃ cur, w.heap[b]? = some (.cells cur e (0, 0)) ∧ n ≤ cap ∧ cap ≤ maxLen ∧ cur.size = cap * sz ∧ ∃ ys, cur.toList = xs ++ ys := by
  rcases h.2 with ⟨q, _⟩ | ⟨g, cap', cur, e1, _, e3, e4, e5, e6, e7⟩
  · rw [hv] at q; cases q
  · rw [hv] at e1
    cases e1
    exact ⟨cur, e3, e4, e5, e6, cur.toList.drop (n * sz), by rw [← e7, List.take_append_drop]⟩

theorem loadA_at {S : Nat → Bool} {K : Kz} {s : St} {a : Act} {w : World} (h : StRel S K s a w) {p : Value} {x v : AV} {sz : Nat} {ag : Bool} (hp : Rep K p x) (hl : loadA s sz ag x = some v) :
    ∃ b o c, p = .pointer (some ⟨b, o, none⟩) ∧ At K w b c ∧ rd c o sz ag = some v := by
  unfold loadA at hl
  cases hp with
  | lptr t off b hb =>
    simp only at hl
    obtain ⟨⟨c, hc⟩, _⟩ := h.sl t b hb
    have ht := h.tmp t
    rw [hc] at ht hl
    obtain ⟨b', cs, el, h1, _, h3, h4, _⟩ := ht
    rw [hb] at h1
    cases h1
    exact ⟨b, off, c, rfl, .of_all h3 h4, hl⟩
  | ptr id off b hb =>
    simp only at hl
    split at hl
    · rename_i c hH
      obtain ⟨_, _, _, b', cs, el, h1, h3, h4⟩ := h.inv.obj id _ hH
      rw [hb] at h1
      cases h1
      exact ⟨b, off, c, rfl, .of_all h3 h4, hl⟩
    · simp at hl
  | rptr id off n _ hd hn hv ho =>
    simp only at hl
    cases hr : rowOf s.H id n with
    | none => rw [hr] at hl; simp at hl
    | some r =>
      rw [hr] at hl
      simp only [Option.bind_some] at hl
      obtain ⟨h1, h2⟩ := rowOf_some hr
      obtain ⟨h3, xs, h4, h5, _⟩ := h.inv.row_ver h1 h2
      obtain ⟨b, cap, e1, e2⟩ := hv h3
      obtain ⟨cur, f1, _, _, _, ys, f2⟩ := ownsRow_at_block h4 e1
      exact ⟨b, off, _, e2, ⟨cur, _, _, xs, ys, f1, f2, h5⟩, hl⟩
  | fptr b d off c cells hf hw => exact ⟨b, d + off, c, rfl, h.inv.at_fz hf, rd_win hw hl⟩
  | _ => simp at hl

theorem At.cell {K : Kz} {w : World} {b : Nat} {c : List AV} (h : At K w b c) {o : Nat} {v : AV} (e : c[o]? = some v) : ∃ v', w.cell? ⟨b, o, none⟩ = some v' ∧ Rep K v' v := by
  obtain ⟨cs, el, fr, xs, ys, h1, h2, h3⟩ := h
  obtain ⟨v', e1, e2⟩ := h3.get e
  refine ⟨v', ?_, e2⟩
  rw [cell_of_row w b o cs el fr h1]
  have hl : o < xs.length := (List.getElem?_eq_some_iff.1 e1).1
  have : cs.toList[o]? = some v' := by rw [h2, List.getElem?_append_left hl, e1]
  simpa using this

theorem add_lit (b o j : Nat) : (⟨b, o, none⟩ : Addr).add j = ⟨b, o + j, none⟩ := by unfold Addr.add; split <;> simp_all

theorem RepL.of_get {K : Kz} : ∀ {as : List AV} {f : Nat → Value}, (∀ i a, as[i]? = some a → Rep K (f i) a) → RepL K ((List.range as.length).map f) as
  | [], _, _ => .nil
  | a :: as, f, h => by
    rw [List.length_cons, List.range_succ_eq_map, List.map_cons, List.map_map]
    exact .cons _ _ _ _ (h 0 a (by simp)) (RepL.of_get (f := f ∘ Nat.succ) fun i b e => h (i + 1) b (by simpa using e))

def aggD : TypeDesc → Bool
  | .struct _ | .array _ _ => true
  | _ => false

def isAggP (P : Program) (t : TypeId) (b : Bool) : Bool := match P.underlying t with | some d => aggD d == b | none => false
def szP (P : Program) (t : TypeId) (n : Nat) : Bool := match P.info? t with | some i => decide (i.size = n) | none => false
def zeroP (P : Program) (t : TypeId) (z : List AV) : Bool := match P.info? t with | some i => (match i.zero with | some v => vOKL v.cells.toList z | none => false) | none => false

theorem run_isAgg {P : Program} {t : TypeId} {b : Bool} (h : isAggP P t b = true) (w : World) : (isAgg t).run P w = .ok b w := by
  unfold isAggP at h
  cases hq : P.underlying t with
  | none => rw [hq] at h; simp at h
  | some d =>
    rw [hq] at h
    simp only [beq_iff_eq] at h
    unfold isAgg
    rw [Sem.run_bind, run_underlying hq w]
    subst h
    cases d <;> rfl

theorem run_sizeOf {P : Program} {t : TypeId} {n : Nat} (h : szP P t n = true) (w : World) : (Go.sizeOf t).run P w = .ok n w := by
  unfold szP at h
  cases hq : P.info? t with
  | none => rw [hq] at h; simp at h
  | some i => rw [hq] at h; simp only [decide_eq_true_eq] at h; simp [Go.sizeOf, typeInfo, hq, h]

/-- The value that a load gives. -/
theorem run_loadVar_at {P : Program} {K : Kz} {w : World} {t : TypeId} {b o sz : Nat} {ag : Bool} {c : List AV} {v : AV} (h : At K w b c) (hr : rd c o sz ag = some v) (h1 : isAggP P t ag = true) (h2 : ag = true → szP P t sz = true) :
    ∃ v', (loadVar t ⟨b, o, none⟩).run P w = .ok v' w ∧ Rep K v' v := by
  unfold rd at hr
  cases ag with
  | true =>
    simp only [if_true] at hr
    split at hr
    · rename_i hl
      simp only [Option.some.injEq] at hr
      subst hr
      have hx : ∀ j, j < sz → ∃ v', w.cell? ⟨b, o + j, none⟩ = some v' ∧ Rep K v' (c[o + j]?.getD .undef) := fun j hj => by
        have : c[o + j]? = some (c[o + j]'(by omega)) := List.getElem?_eq_getElem (by omega)
        obtain ⟨v', e1, e2⟩ := h.cell this
        exact ⟨v', e1, by rw [this]; exact e2⟩
      have hf : ∀ j, j < sz → w.cell? ⟨b, o + j, none⟩ = some ((w.cell? ⟨b, o + j, none⟩).getD undef) := fun j hj => by
        obtain ⟨v', e1, _⟩ := hx j hj
        rw [e1]; rfl
      have hrun := run_loadCells (P := P) w ⟨b, o, none⟩ sz (fun j => (w.cell? ⟨b, o + j, none⟩).getD undef) (fun j hj => by rw [add_lit]; exact hf j hj)
      refine ⟨_, ?_, .agg ((List.range sz).map fun j => (w.cell? ⟨b, o + j, none⟩).getD undef) _ ?_⟩
      · simp [loadVar, Sem.run_bind, run_isAgg h1, run_sizeOf (h2 rfl), hrun]
      · have hlen : ((c.drop o).take sz).length = sz := by simp; omega
        have := RepL.of_get (K := K) (as := (c.drop o).take sz) (f := fun j => (w.cell? ⟨b, o + j, none⟩).getD undef) (fun i a e => by
          have hi : i < sz := by have := (List.getElem?_eq_some_iff.1 e).1; omega
          obtain ⟨v', e1, e2⟩ := hx i hi
          rw [e1]
          have e3 : c[o + i]? = some a := by rw [List.getElem?_take, if_pos hi, List.getElem?_drop] at e; exact e
          rw [e3] at e2
          exact e2)
        rw [hlen] at this
        exact this
    · simp at hr
  | false =>
    simp only [Bool.false_eq_true, if_false] at hr
    obtain ⟨v', e1, e2⟩ := h.cell hr
    exact ⟨v', by simp [loadVar, Sem.run_bind, run_isAgg h1, e1], e2⟩
end Go.Proofs.YtdhlgbnljhgabaaGreatDoor.AM

/- Quiet operations: what they compute. -/
namespace Go.Proofs.YtdhlgbnljhgabaaGreatDoor.AM
open Go

theorem RepL.toArray_get {K : Kz} {vs : Array Value} {as : List AV} (h : RepL K vs.toList as) {i : Nat} {a : AV} (e : as[i]? = some a) : ∃ v, vs[i]? = some v ∧ Rep K v a := by
  obtain ⟨v, e1, e2⟩ := h.get e
  exact ⟨v, by simpa using e1, e2⟩

/-- Cells put one behind the other. -/
theorem foldl_wr {K : Kz} (off : Nat) : ∀ (vs : List Value) (as : List AV) (k : Nat) (cs : Array Value) (c : List AV), RepL K vs as → RepL K cs.toList c →
    RepL K ((vs.zipIdx k).foldl (fun cs (x : Value × Nat) => cs.setIfInBounds (off + x.2) x.1) cs).toList (wrL c (off + k) as)
  | [], _, k, cs, c, h, hc => by cases h; simpa [wrL] using hc
  | v :: vs, _, k, cs, c, h, hc => by
    cases h with
    | cons _ a _ as h hl =>
      simp only [List.zipIdx_cons, List.foldl_cons, wrL]
      have := foldl_wr off vs as (k + 1) (cs.setIfInBounds (off + k) v) (c.set (off + k) a) hl (by rw [Array.toList_setIfInBounds]; exact hc.set _ h)
      rw [Nat.add_assoc]
      exact this

theorem length_wrL : ∀ (vs : List AV) (off : Nat) (c : List AV), (wrL c off vs).length = c.length
  | [], _, _ => rfl
  | v :: vs, off, c => by rw [wrL, length_wrL, List.length_set]

/-- Parts of a literal, and where they go. -/
inductive PartsRep (K : Kz) (place : Nat → Option (Nat × Nat)) : List (Nat × Value) → List (Nat × Nat × AV) → Prop
  | nil : PartsRep K place [] []
  | cons (i off sz : Nat) (v : Value) (a : AV) (ps : List (Nat × Value)) (qs : List (Nat × Nat × AV)) (hp : place i = some (off, sz)) (h : Rep K v a) (hl : PartsRep K place ps qs) : PartsRep K place ((i, v) :: ps) ((off, sz, a) :: qs)

theorem fill_rep {K : Kz} {place : Nat → Option (Nat × Nat)} : ∀ {ps : List (Nat × Value)} {qs : List (Nat × Nat × AV)} {cs : Array Value} {c c' : List AV}, PartsRep K place ps qs → RepL K cs.toList c → fillP c qs = some c' →
    ∃ cs', Instr.fill place cs ps = some cs' ∧ RepL K cs'.toList c'
  | _, _, cs, c, c', .nil, hc, hf => by
    simp only [fillP, Option.some.injEq] at hf
    subst hf
    exact ⟨cs, rfl, hc⟩
  | _, _, cs, c, c', .cons i off sz v a ps qs hp h hl, hc, hf => by
    simp only [fillP] at hf
    split at hf
    · rename_i q
      obtain ⟨q1, q2, q3⟩ := q
      have hcells := h.cells q3
      have e1 := hcells.length
      have e2 := hc.length
      simp only [Array.length_toList] at e1 e2
      have key := foldl_wr (K := K) off v.cells.toList a.cells 0 cs c hcells hc
      obtain ⟨cs', f1, f2⟩ := fill_rep hl key hf
      refine ⟨cs', ?_, f2⟩
      simp only [Instr.fill, hp]
      rw [if_neg (by simp; omega)]
      rw [← f1]
      congr 1
      rw [← Array.foldl_toList, Array.toList_zipIdx]
    · simp at hf

def placeP (P : Program) (t : TypeId) (i : Nat) : Option (Nat × Nat) :=
  match P.underlying t with
  | some (.struct fs) => (fs[i]?).bind fun f => (P.info? f.type).map fun q => (f.offset, q.size)
  | some (.array _ e) => (P.info? e).map fun q => (i * q.size, q.size)
  | _ => none

/-- Do parts stand where they should? -/
def partsP (P : Program) (t : TypeId) : List (Nat × Operand) → List (Nat × Nat × Opd) → Bool
  | [], [] => true
  | (i, x) :: ps, (off, sz, y) :: qs => decide (placeP P t i = some (off, sz)) && opdOK x y && partsP P t ps qs
  | _, _ => false

theorem partsP_rep {P : Program} {t : TypeId} {S : Nat → Bool} {K : Kz} {s : St} {a : Act} {w : World} (h : StRel S K s a w) {place : Nat → Option (Nat × Nat)} (hpl : ∀ i q, placeP P t i = some q → place i = some q) :
    ∀ {ps : List (Nat × Operand)} {qs : List (Nat × Nat × Opd)}, partsP P t ps qs = true → PartsRep K place (ps.map fun (i, x) => (i, a.eval x)) (qs.map fun p => (p.1, p.2.1, ev s.t p.2.2))
  | [], [], _ => .nil
  | (i, x) :: ps, (off, sz, y) :: qs, hq => by
    simp only [partsP, Bool.and_eq_true, decide_eq_true_eq] at hq
    exact .cons _ _ _ _ _ _ _ (hpl _ _ hq.1.1) (h.ev hq.1.2) (partsP_rep h hpl hq.2)
  | [], _ :: _, hq => by simp [partsP] at hq
  | _ :: _, [], hq => by simp [partsP] at hq

theorem zeroP_run {P : Program} {t : TypeId} {z : List AV} (h : zeroP P t z = true) (w : World) : ∃ v, (zeroValue t).run P w = .ok v w ∧ vOKL v.cells.toList z = true ∧ ∃ i, P.info? t = some i ∧ i.zero = some v := by
  unfold zeroP at h
  cases hq : P.info? t with
  | none => rw [hq] at h; simp at h
  | some i =>
    rw [hq] at h
    cases hz : i.zero with
    | none => simp only [hz] at h; simp at h
    | some v => simp only [hz] at h; exact ⟨v, by simp [zeroValue, typeInfo, hq, hz], h, i, rfl, hz⟩

theorem run_mapM_ok {P : Program} {α β : Type} (f : α → Sem β) (g : α → β) (w : World) : ∀ (l : List α), (∀ x ∈ l, (f x).run P w = .ok (g x) w) → (l.mapM f).run P w = .ok (l.map g) w
  | [], _ => by simp
  | x :: l, h => by
    have h1 := h x (by simp)
    have h2 := run_mapM_ok f g w l fun y hy => h y (by simp [hy])
    simp [h1, h2]

def buildP (P : Program) (t : TypeId) : Bool :=
  match P.underlying t with
  | some (.struct fs) => fs.toList.all fun (f : Field) => (P.info? f.type).isSome
  | some (.array _ e) => (P.info? e).isSome
  | _ => false

/-- A struct's or an array's literal. -/
theorem run_build {P : Program} {t : TypeId} {S : Nat → Bool} {K : Kz} {s : St} {a : Act} {w : World} (h : StRel S K s a w) {z c : List AV} {ps : Array (Nat × Operand)} {qs : List (Nat × Nat × Opd)}
    (hz : zeroP P t z = true) (hu : buildP P t = true) (hq : partsP P t ps.toList qs = true)
    (hf : fillP z (qs.map fun p => (p.1, p.2.1, ev s.t p.2.2)) = some c) : ∃ v', (Instr.build t (ps.map fun (i, x) => (i, a.eval x))).run P w = .ok v' w ∧ Rep K v' (.agg c) := by
  obtain ⟨zv, hz1, hz2, _⟩ := zeroP_run hz w
  have hzr := vOKL_rep hz2 K
  have hlist : (Array.map (fun x => match x with | (i, x) => (i, a.eval x)) ps).toList = List.map (fun x => match x with | (i, x) => (i, a.eval x)) ps.toList := by simp
  unfold buildP at hu
  split at hu
  · rename_i fs hd
    have hmap : (fs.toList.mapM fun (f : Field) => do Pure.pure (f.offset, ← Go.sizeOf f.type)).run P w = .ok (fs.toList.map fun (f : Field) => (f.offset, ((P.info? f.type).map (·.size)).getD 0)) w := by
      refine run_mapM_ok (P := P) _ _ w _ fun f hf => ?_
      have := (List.all_eq_true.1 hu) f hf
      obtain ⟨i, hi⟩ := Option.isSome_iff_exists.1 this
      simp [Go.sizeOf, typeInfo, hi]
    have hpl : ∀ i q, placeP P t i = some q → (fun i => ((fs.toList.map fun (f : Field) => (f.offset, ((P.info? f.type).map (·.size)).getD 0)).toArray)[i]?) i = some q := by
      intro i q e
      simp only [placeP, hd] at e
      cases hfi : fs[i]? with
      | none => rw [hfi] at e; simp at e
      | some f =>
        rw [hfi] at e
        simp only [Option.bind_some] at e
        cases hi : P.info? f.type with
        | none => rw [hi] at e; simp at e
        | some i' => rw [hi] at e; simp at e; subst e; simp [hfi, hi]
    have hparts := partsP_rep h hpl hq
    obtain ⟨cs', e1, e2⟩ := fill_rep hparts hzr hf
    refine ⟨.agg cs', ?_, .agg cs'.toList c e2⟩
    unfold Instr.build
    simp only [Sem.run_bind, hz1, Result.andThen_ok, run_underlying hd]
    rw [Array.mapM_eq_mapM_toList]
    simp only [Sem.run_map, hmap, Result.andThen_ok, hlist]
    rw [e1]
    rfl
  · rename_i n e hd
    obtain ⟨i', hi⟩ := Option.isSome_iff_exists.1 hu
    have hsz : (Go.sizeOf e).run P w = .ok i'.size w := by simp [Go.sizeOf, typeInfo, hi]
    have hpl : ∀ i q, placeP P t i = some q → (fun i => some (i * i'.size, i'.size)) i = some q := by
      intro i q e'
      simp only [placeP, hd, hi] at e'
      simpa using e'
    have hparts := partsP_rep h hpl hq
    obtain ⟨cs', e1, e2⟩ := fill_rep hparts hzr hf
    refine ⟨.agg cs', ?_, .agg cs'.toList c e2⟩
    unfold Instr.build
    simp only [Sem.run_bind, hz1, Result.andThen_ok, run_underlying hd, hsz, hlist]
    rw [e1]
    rfl
  · simp at hu
end Go.Proofs.YtdhlgbnljhgabaaGreatDoor.AM

/- Quiet operations on numbers, texts, pointers, structs. -/
namespace Go.Proofs.YtdhlgbnljhgabaaGreatDoor.AM
open Go

/-- What a comparison's type is. -/
def tyP (P : Program) (t : TypeId) (k : Nat) : Bool :=
  match k, P.underlying t with
  | 1, some .bool => true
  | 2, some (.pointer _) => true
  | 0, some _ => true
  | _, _ => false

theorem tyP_bool {P : Program} {t : TypeId} (h : tyP P t 1 = true) : P.underlying t = some .bool := by
  unfold tyP at h
  cases hq : P.underlying t with
  | none => rw [hq] at h; simp at h
  | some d => rw [hq] at h; cases d <;> first | rfl | (simp at h; done)

theorem tyP_ptr {P : Program} {t : TypeId} (h : tyP P t 2 = true) : ∃ e, P.underlying t = some (.pointer e) := by
  unfold tyP at h
  cases hq : P.underlying t with
  | none => rw [hq] at h; simp at h
  | some d => rw [hq] at h; cases d <;> first | exact ⟨_, rfl⟩ | (simp at h; done)

theorem str_toList (s : List UInt8) : (ByteArray.mk s.toArray).toList = s := by simp

theorem beq_str (a b : List UInt8) : ((ByteArray.mk a.toArray).toList == (ByteArray.mk b.toArray).toList) = (a == b) := by simp

theorem size_str (a : List UInt8) : (ByteArray.mk a.toArray).size = a.length := by simp [ByteArray.size]

theorem app_str (a b : List UInt8) : (ByteArray.mk a.toArray) ++ (ByteArray.mk b.toArray) = ByteArray.mk (a ++ b).toArray := by
  apply ByteArray.ext
  simp

theorem eqGuard_pure {op : BinOp} {t : TypeId} {x y : Operand} {a b : Value} {P : Program} {w : World} (ha : a ≠ .nilIface) (hb : ∀ cs, a ≠ .agg cs) : (eqGuard op t x y a b).run P w = .ok () w := by
  unfold eqGuard
  cases a <;> first | exact absurd rfl ha | exact absurd rfl (hb _) | (cases op <;> rfl)

theorem rep_int {K : Kz} {v : Value} {k : IntKind} {n : Int} (h : Rep K v (.int k n)) : v = .int k n := by cases h; rfl
theorem rep_str {K : Kz} {v : Value} {s : List UInt8} (h : Rep K v (.str s)) : v = .string ⟨s.toArray⟩ := by cases h; rfl
theorem rep_bool {K : Kz} {v : Value} {b : Bool} (h : Rep K v (.bool b)) : v = .bool b := by cases h; rfl
theorem rep_nilPtr {K : Kz} {v : Value} (h : Rep K v .nilPtr) : v = .pointer none := by cases h; rfl

theorem rep_ptr {K : Kz} {v : Value} {a : AV} (h : Rep K v a) (ha : isPtr a = true) : ∃ p, v = .pointer (some p) := by
  cases h <;> first | exact ⟨_, rfl⟩ | (simp [isPtr] at ha; done)

theorem run_bin_int {P : Program} {w : World} {K : Kz} {op : BinOp} {t : TypeId} {ty : Nat} {ox oy : Operand} {k k' : IntKind} {n m : Int} {v : AV} (hv : binV op ty (.int k n) (.int k' m) = some v) :
    ∃ v', (do eqGuard op t ox oy (.int k n) (.int k' m); binOp op t (.int k n) (.int k' m)).run P w = .ok v' w ∧ Rep K v' v := by
  rw [Sem.run_bind, eqGuard_pure (by simp) (by simp)]
  simp only [Result.andThen_ok]
  cases op <;> simp only [binV] at hv
  case shl =>
    split at hv
    · rename_i h0
      simp only [Option.some.injEq] at hv
      subst hv
      refine ⟨_, ?_, .int _ _⟩
      simp [binOp, Op.shift, show ¬ m < 0 by omega]
    · simp at hv
  case shr =>
    split at hv
    · rename_i h0
      simp only [Option.some.injEq] at hv
      subst hv
      refine ⟨_, ?_, .int _ _⟩
      simp [binOp, Op.shift, show ¬ m < 0 by omega]
    · simp at hv
  case quo =>
    split at hv
    · rename_i h0
      simp only [Option.some.injEq] at hv
      obtain ⟨rfl, h1⟩ := h0
      subst hv
      exact ⟨_, by simp [binOp, Op.intDiv, h1], .int _ _⟩
    · simp at hv
  case rem =>
    split at hv
    · rename_i h0
      simp only [Option.some.injEq] at hv
      obtain ⟨rfl, h1⟩ := h0
      subst hv
      exact ⟨_, by simp [binOp, Op.intDiv, h1], .int _ _⟩
    · simp at hv
  all_goals
    split at hv
    · rename_i h0
      simp only [Option.some.injEq] at hv
      subst h0
      subst hv
      first
        | (refine ⟨_, ?_, .int _ _⟩; simp only [binOp, ne_eq, not_true_eq_false, if_false]; rfl)
        | (refine ⟨_, ?_, .bool _⟩; simp only [binOp, ne_eq, not_true_eq_false, if_false]; rfl)
    · simp at hv

theorem run_bin_str {P : Program} {w : World} {K : Kz} {op : BinOp} {t : TypeId} {ty : Nat} {ox oy : Operand} {s u : List UInt8} {v : AV} (hv : binV op ty (.str s) (.str u) = some v) :
    ∃ v', (do eqGuard op t ox oy (.string ⟨s.toArray⟩) (.string ⟨u.toArray⟩); binOp op t (.string ⟨s.toArray⟩) (.string ⟨u.toArray⟩)).run P w = .ok v' w ∧ Rep K v' v := by
  rw [Sem.run_bind, eqGuard_pure (by simp) (by simp)]
  simp only [Result.andThen_ok]
  cases op <;> simp only [binV] at hv <;> first | (simp at hv; done) | skip
  case add =>
    split at hv
    · rename_i h0
      simp only [Option.some.injEq] at hv
      subst hv
      refine ⟨.string ⟨(s ++ u).toArray⟩, ?_, .str _⟩
      have h1 : ¬ (((s.length + u.length : Nat) : Int) > IntKind.i64.max) := by
        have : IntKind.i64.max = 9223372036854775807 := by decide
        omega
      simp only [binOp, Op.stringOp, size_str, if_neg h1, app_str, Sem.run_pure]
    · simp at hv
  all_goals
    simp only [Option.some.injEq] at hv
    subst hv
    exact ⟨_, by simp [binOp, Op.stringOp], .bool _⟩

theorem run_bin_bool {P : Program} {w : World} {K : Kz} {op : BinOp} {t : TypeId} {ty : Nat} {ox oy : Operand} {p q : Bool} {v : AV} (ht : tyP P t ty = true) (hv : binV op ty (.bool p) (.bool q) = some v) :
    ∃ v', (do eqGuard op t ox oy (.bool p) (.bool q); binOp op t (.bool p) (.bool q)).run P w = .ok v' w ∧ Rep K v' v := by
  rw [Sem.run_bind, eqGuard_pure (by simp) (by simp)]
  simp only [Result.andThen_ok]
  simp only [binV] at hv
  split at hv
  · rename_i h0
    subst h0
    have hb := tyP_bool ht
    have hd : ∀ d, (Op.equalIn (d + 1) t (.bool p) (.bool q)).run P w = .ok (p == q) w := fun d => by simp [Op.equalIn, run_underlying hb]
    have hrun : (Op.equal t (.bool p) (.bool q)).run P w = .ok (p == q) w := hd 9999
    have e1 : binOp .eql t (.bool p) (.bool q) = (do Pure.pure (Value.bool (← Op.equal t (.bool p) (.bool q)))) := rfl
    have e2 : binOp .neq t (.bool p) (.bool q) = (do Pure.pure (Value.bool (!(← Op.equal t (.bool p) (.bool q))))) := rfl
    cases op <;> simp only at hv <;> first | (simp at hv; done) | skip
    all_goals
      simp only [Option.some.injEq] at hv
      subst hv
      first
        | exact ⟨.bool (p == q), by rw [e1, Sem.run_bind, hrun]; rfl, .bool _⟩
        | exact ⟨.bool (!(p == q)), by rw [e2, Sem.run_bind, hrun]; rfl, .bool _⟩
  · simp at hv

theorem run_ptrC {P : Program} {w : World} {K : Kz} {op : BinOp} {t : TypeId} {ty : Nat} {ox oy : Operand} {x y : Option Addr} {b : Bool} {v : AV} (ht : tyP P t ty = true) (hv : ptrC op ty b = some v)
    (hb : ∀ d e, P.underlying t = some (.pointer e) → (Op.equalIn (d + 1) t (.pointer x) (.pointer y)).run P w = .ok b w) :
    ∃ v', (do eqGuard op t ox oy (.pointer x) (.pointer y); binOp op t (.pointer x) (.pointer y)).run P w = .ok v' w ∧ Rep K v' v := by
  rw [Sem.run_bind, eqGuard_pure (by simp) (by simp)]
  simp only [Result.andThen_ok]
  unfold ptrC at hv
  split at hv
  · rename_i h0
    subst h0
    obtain ⟨e, hp⟩ := tyP_ptr ht
    have hrun : (Op.equal t (.pointer x) (.pointer y)).run P w = .ok b w := hb 9999 e hp
    have e1 : binOp .eql t (.pointer x) (.pointer y) = (do Pure.pure (Value.bool (← Op.equal t (.pointer x) (.pointer y)))) := rfl
    have e2 : binOp .neq t (.pointer x) (.pointer y) = (do Pure.pure (Value.bool (!(← Op.equal t (.pointer x) (.pointer y))))) := rfl
    cases op <;> simp only at hv <;> first | (simp at hv; done) | skip
    all_goals
      simp only [Option.some.injEq] at hv
      subst hv
      first
        | exact ⟨.bool b, by rw [e1, Sem.run_bind, hrun]; rfl, .bool _⟩
        | exact ⟨.bool (!b), by rw [e2, Sem.run_bind, hrun]; rfl, .bool _⟩
  · simp at hv

theorem run_bin {P : Program} {w : World} {K : Kz} {op : BinOp} {t : TypeId} {ty : Nat} {ox oy : Operand} {x y : Value} {a b v : AV} (ht : tyP P t ty = true) (hx : Rep K x a) (hy : Rep K y b) (hv : binV op ty a b = some v) :
    ∃ v', (do eqGuard op t ox oy x y; binOp op t x y).run P w = .ok v' w ∧ Rep K v' v := by
  have hv' := hv
  unfold binV at hv'
  split at hv'
  · have := rep_int hx; subst this
    have := rep_int hy; subst this
    exact run_bin_int hv
  · have := rep_str hx; subst this
    have := rep_str hy; subst this
    exact run_bin_str hv
  · have := rep_bool hx; subst this
    have := rep_bool hy; subst this
    exact run_bin_bool ht hv
  · have := rep_nilPtr hx; subst this
    split at hv'
    · have := rep_nilPtr hy; subst this
      exact run_ptrC ht hv' fun d e hp => by simp [Op.equalIn, run_underlying hp]
    · split at hv'
      · rename_i hq
        obtain ⟨p, hp⟩ := rep_ptr hy hq
        subst hp
        exact run_ptrC ht hv' fun d e hp => by simp [Op.equalIn, run_underlying hp]
      · simp at hv'
  · have := rep_nilPtr hy; subst this
    split at hv'
    · rename_i hq
      obtain ⟨p, hp⟩ := rep_ptr hx hq
      subst hp
      exact run_ptrC ht hv' fun d e hp => by simp [Op.equalIn, run_underlying hp]
    · simp at hv'
  · simp at hv'

theorem run_un {P : Program} {w : World} {K : Kz} {op : UnOp} {x : Value} {a v : AV} (hx : Rep K x a) (hv : unV op a = some v) : ∃ v', (Op.unary op x).run P w = .ok v' w ∧ Rep K v' v := by
  unfold unV at hv
  split at hv
  · simp only [Option.some.injEq] at hv; subst hv
    have := rep_bool hx; subst this
    exact ⟨_, by simp [Op.unary], .bool _⟩
  · simp only [Option.some.injEq] at hv; subst hv
    have := rep_int hx; subst this
    exact ⟨_, by simp [Op.unary, Op.intArith], .int _ _⟩
  · simp only [Option.some.injEq] at hv; subst hv
    have := rep_int hx; subst this
    exact ⟨_, by simp [Op.unary, Op.intBits], .int _ _⟩
  · simp at hv

/-- A conversion's types. -/
def convP (P : Program) (src dst : TypeId) (k : CK) : Bool :=
  match k, P.underlying src, P.underlying dst with
  | .int k, some _, some (.int k') => decide (k = k')
  | .i2s, some (.int _), some .string => true
  | .same, some .string, some .string => true
  | .b2s, some (.slice e), some .string => match P.underlying e with | some (.int .u8) => true | _ => false
  | .s2b e, some .string, some (.slice e') => decide (e = e') && (match P.underlying e with | some (.int .u8) => true | _ => false)
  | _, _, _ => false

theorem bytesOf_rep {K : Kz} : ∀ {vs : List Value} {c : List AV} {l : List UInt8}, RepL K vs c → bytesOf c = some l → ∃ f : List Int, vs = f.map (fun n => .int .u8 n) ∧ l = f.map fun n => UInt8.ofNat n.toNat
  | _, [], l, h, e => by cases h; simp [bytesOf] at e; subst e; exact ⟨[], rfl, rfl⟩
  | _, a :: c, l, h, e => by
    cases h with
    | cons v _ vs _ h hl =>
      cases a with
      | int k n =>
        cases k <;> simp only [bytesOf] at e <;> first | (simp at e; done) | skip
        cases hq : bytesOf c with
        | none => rw [hq] at e; simp at e
        | some r =>
          rw [hq] at e
          simp only [Option.map_some, Option.some.injEq] at e
          subst e
          obtain ⟨f, e1, e2⟩ := bytesOf_rep hl hq
          have := rep_int h; subst this
          exact ⟨n :: f, by simp [e1], by simp [e2]⟩
      | _ => simp [bytesOf] at e

theorem run_b2s_loop {P : Program} {w : World} {g : Value → ByteArray → Sem (ForInStep ByteArray)} (hg : ∀ n r, g (.int .u8 n) r = Pure.pure (ForInStep.yield (r.push (UInt8.ofNat n.toNat)))) : ∀ (f : List Int) (acc : ByteArray),
    Sem.run P (forIn (f.map fun n => Value.int IntKind.u8 n) acc g) w = Result.ok ⟨(acc.data.toList ++ f.map fun n => UInt8.ofNat n.toNat).toArray⟩ w
  | [], acc => by simp
  | n :: f, acc => by
    have ih := run_b2s_loop (P := P) (w := w) hg f (acc.push (UInt8.ofNat n.toNat))
    simp only [List.map_cons, List.forIn_cons, hg, Sem.run_bind, Sem.run_pure, Result.andThen_ok]
    rw [ih]
    simp [ByteArray.push]
end Go.Proofs.YtdhlgbnljhgabaaGreatDoor.AM

/- Quiet operations: conversions, parts, indexes, slices, maps. -/
namespace Go.Proofs.YtdhlgbnljhgabaaGreatDoor.AM
open Go

theorem window {c : List AV} {d n _m : Nat} (h : d + n ≤ c.length) : ((c.drop d).take n).length = n := by simp; omega

theorem Win.sub {c cells : List AV} {d : Nat} (h : Win c d cells) {l n : Nat} (hl : l + n ≤ cells.length) : Win c (d + l) ((cells.drop l).take n) := by
  obtain ⟨p, q, rfl, rfl⟩ := h
  refine ⟨p ++ cells.take l, (cells.drop l).drop n ++ q, ?_, by simp; omega⟩
  have : cells = cells.take l ++ ((cells.drop l).take n ++ (cells.drop l).drop n) := by rw [List.take_append_drop, List.take_append_drop]
  calc p ++ cells ++ q = p ++ (cells.take l ++ ((cells.drop l).take n ++ (cells.drop l).drop n)) ++ q := by rw [← this]
    _ = _ := by simp [List.append_assoc]

theorem Win.nil {c cells : List AV} {d : Nat} (h : Win c d cells) {l : Nat} (hl : l ≤ cells.length) : Win c (d + l) [] := by
  have := h.sub (l := l) (n := 0) (by omega)
  simpa using this

/-- The cells of a slice's value, in memory. -/
theorem list_at {K : Kz} {H : Hp} {w : World} (hi : Inv K H w) {v : Value} {c : List AV} {n : Nat} (h : Rep K v (.list c n)) :
    (v = .slice none 0 0 ∧ c = [] ∧ n = 0) ∨ ∃ b off cap f, v = .slice (some ⟨b, off, none⟩) n cap ∧ n ≤ cap ∧ At K w b f ∧ Win f off c ∧ K.fz b = some f := by
  cases h with
  | list0 => exact .inl ⟨rfl, rfl, rfl⟩
  | list b off n cap f cells hf hw hc => exact .inr ⟨b, off, cap, f, rfl, hc, hi.at_fz hf, hw, hf⟩

theorem At.cells {K : Kz} {w : World} {b : Nat} {f c : List AV} {off : Nat} (h : At K w b f) (hw : Win f off c) : ∃ vs : List Value, RepL K vs c ∧ ∀ j u, vs[j]? = some u → w.cell? ((⟨b, off, none⟩ : Addr).add j) = some u := by
  obtain ⟨p, q, rfl, rfl⟩ := hw
  obtain ⟨cs, el, fr, xs, ys, h1, h2, h3⟩ := h
  rw [List.append_assoc] at h3
  obtain ⟨us, ws, e1, h4, h5⟩ := h3.split
  obtain ⟨vs, zs, e2, h6, h7⟩ := h5.split
  refine ⟨vs, h6, fun j u e => ?_⟩
  rw [add_lit, cell_of_row w b _ cs el fr h1]
  have hl := h4.length
  have : cs.toList[p.length + j]? = some u := by
    rw [h2, e1, e2, List.append_assoc, List.append_assoc, List.getElem?_append_right (by omega), show p.length + j - us.length = j by omega,
      List.getElem?_append_left (List.getElem?_eq_some_iff.1 e).1]
    exact e
  simpa using this

theorem ownsRow_cells {w : World} {e sz : Nat} {v : Value} {n : Nat} {xs : List Value} (h : w.ownsRow 0 e sz v n xs) :
    (v = .slice none 0 0 ∧ n = 0 ∧ xs = []) ∨ ∃ b cap, v = .slice (some ⟨b, 0, none⟩) n cap ∧ n ≤ cap ∧ ∀ j u, xs[j]? = some u → w.cell? ((⟨b, 0, none⟩ : Addr).add j) = some u := by
  rcases h.2 with ⟨e1, e2⟩ | ⟨g, cap, cur, e1, e2, e3, e4, _⟩
  · exact .inl ⟨e1, e2, List.eq_nil_of_length_eq_zero (by rw [h.1, e2, Nat.zero_mul])⟩
  · exact .inr ⟨g, cap, e1, e4, h.cells (g := g) (by rw [e1]; rfl)⟩

theorem run_b2s {P : Program} {w : World} {f : List Int} {a : Addr} {cap : Nat} (h : ∀ j u, (f.map fun n => Value.int .u8 n)[j]? = some u → w.cell? (a.add j) = some u) :
    (Conv.bytesToString (.slice (some a) f.length cap)).run P w = .ok (.string ⟨(f.map fun n => UInt8.ofNat n.toNat).toArray⟩) w := by
  have h1 := run_loadCells_list (P := P) w a (f.map fun n => Value.int .u8 n) h
  simp only [List.length_map] at h1
  unfold Conv.bytesToString
  simp only [Sem.run_bind, h1, Result.andThen_ok]
  rw [← Array.forIn_toList]
  rw [run_b2s_loop (fun n r => rfl) f ByteArray.empty]
  simp [ByteArray.empty, ByteArray.emptyWithCapacity]
  rfl

theorem run_conv {P : Program} {S : Nat → Bool} {K : Kz} {s : St} {a : Act} {w : World} (h : StRel S K s a w) {src dst : TypeId} {k : CK} {x : Value} {y v : AV} (ht : convP P src dst k = true) (hx : Rep K x y) (hk : ∀ e, k ≠ .s2b e) (hv : convV k y s.H = some v) :
    ∃ v', (convert src dst x).run P w = .ok v' w ∧ Rep K v' v := by
  unfold convV at hv
  split at hv
  · rename_i k' k n
    simp only [Option.some.injEq] at hv
    subst hv
    have := rep_int hx; subst this
    have : ∃ d, P.underlying src = some d := by unfold convP at ht; split at ht <;> simp_all
    obtain ⟨d, h1⟩ := this
    have h2 : P.underlying dst = some (.int k') := by
      unfold convP at ht; split at ht <;> simp_all
    exact ⟨_, by simp [convert, run_underlying h1, run_underlying h2, Conv.intToInt], .int _ _⟩
  · exact absurd rfl (hk _)
  · rename_i c n
    split at hv
    · rename_i hn
      cases hb : bytesOf c with
      | none => rw [hb] at hv; simp at hv
      | some l =>
        rw [hb] at hv
        simp only [Option.map_some, Option.some.injEq] at hv
        subst hv
        have hsd : ∃ e, P.underlying src = some (.slice e) ∧ P.underlying e = some (.int .u8) := by
          unfold convP at ht; split at ht <;> simp_all <;> split at ht <;> simp_all
        have hdd : P.underlying dst = some .string := by
          unfold convP at ht; split at ht <;> simp_all
        obtain ⟨e, h1, h3⟩ := hsd
        rcases list_at h.inv hx with ⟨e1, e2, e3⟩ | ⟨b, off, cap, f, e1, _, hat, hw, _⟩
        · subst e2
          simp [bytesOf] at hb
          subst hb
          rw [e1]
          exact ⟨.string ⟨([] : List UInt8).toArray⟩, by simp [convert, run_underlying h1, run_underlying hdd, run_underlying h3, Conv.bytesToString, ByteArray.empty, ByteArray.emptyWithCapacity]; rfl, .str _⟩
        · obtain ⟨vs, hr, hcell⟩ := hat.cells hw
          obtain ⟨g, e4, e5⟩ := bytesOf_rep hr hb
          subst e4
          have hlen := hr.length
          simp only [List.length_map] at hlen
          rw [e1, hn, ← hlen, e5]
          refine ⟨_, ?_, .str _⟩
          simp [convert, run_underlying h1, run_underlying hdd, run_underlying h3, run_b2s hcell]
    · simp at hv
  · rename_i id n
    split at hv
    · rename_i ro p e' c hH
      split at hv
      · rename_i hn
        cases hb : bytesOf c with
        | none => rw [hb] at hv; simp at hv
        | some l =>
          rw [hb] at hv
          simp only [Option.map_some, Option.some.injEq] at hv
          subst hv
          have hsd : ∃ e, P.underlying src = some (.slice e) ∧ P.underlying e = some (.int .u8) := by
            unfold convP at ht; split at ht <;> simp_all <;> split at ht <;> simp_all
          have hdd : P.underlying dst = some .string := by
            unfold convP at ht; split at ht <;> simp_all
          obtain ⟨e, h1, h3⟩ := hsd
          obtain ⟨hver, xs, hown, hr, _⟩ := h.inv.row_ver hH (n := n) (by rw [Nat.mul_one]; exact hn)
          cases hx with
          | own _ _ _ hd hn' hvv ho =>
            have hxv := hvv hver
            obtain ⟨g, e4, e5⟩ := bytesOf_rep hr hb
            rcases ownsRow_cells hown with ⟨q1, q2, q3⟩ | ⟨b, cap, q1, q2, q3⟩
            · rw [q3] at e4
              have hg : g = [] := List.map_eq_nil_iff.1 e4.symm
              subst hg
              rw [hxv, q1, e5]
              exact ⟨.string ⟨([] : List UInt8).toArray⟩, by simp [convert, run_underlying h1, run_underlying hdd, run_underlying h3, Conv.bytesToString, ByteArray.empty, ByteArray.emptyWithCapacity]; rfl, .str _⟩
            · rw [e4] at q3 hr
              have hlen := hr.length
              simp only [List.length_map] at hlen
              rw [hxv, q1, hn, ← hlen, e5]
              refine ⟨_, ?_, .str _⟩
              simp [convert, run_underlying h1, run_underlying hdd, run_underlying h3, run_b2s q3]
      · simp at hv
    · simp at hv
  · simp only [Option.some.injEq] at hv
    subst hv
    have hsd : ∃ e, P.underlying src = some (.slice e) ∧ P.underlying e = some (.int .u8) := by
      unfold convP at ht; split at ht <;> simp_all <;> split at ht <;> simp_all
    have hdd : P.underlying dst = some .string := by
      unfold convP at ht; split at ht <;> simp_all
    obtain ⟨e, h1, h3⟩ := hsd
    cases hx
    exact ⟨.string ⟨([] : List UInt8).toArray⟩, by simp [convert, run_underlying h1, run_underlying hdd, run_underlying h3, Conv.bytesToString, ByteArray.empty, ByteArray.emptyWithCapacity]; rfl, .str _⟩
  · rename_i k n
    simp only [Option.some.injEq] at hv
    subst hv
    have := rep_int hx; subst this
    have h1 : ∃ k, P.underlying src = some (.int k) := by unfold convP at ht; split at ht <;> simp_all
    have h2 : P.underlying dst = some .string := by unfold convP at ht; split at ht <;> simp_all
    obtain ⟨k, h1⟩ := h1
    refine ⟨.string (Utf8.encode n), by simp [convert, run_underlying h1, run_underlying h2, Conv.intToString], ?_⟩
    have : Utf8.encode n = ⟨((Utf8.encode n).data.toList).toArray⟩ := by simp
    rw [this]
    exact .str _
  · rename_i u
    simp only [Option.some.injEq] at hv
    subst hv
    have := rep_str hx; subst this
    have h1 : P.underlying src = some .string := by unfold convP at ht; split at ht <;> simp_all
    have h2 : P.underlying dst = some .string := by unfold convP at ht; split at ht <;> simp_all
    exact ⟨_, by simp [convert, run_underlying h1, run_underlying h2], .str _⟩
  · simp at hv
end Go.Proofs.YtdhlgbnljhgabaaGreatDoor.AM
