/-
  The evaluator on data, what it means that a value of the machine reads as data, and the first laws of its soundness.
-/
import Derived.Calls
import Derived.Orders
import Derived.Below
import Derived.RangeFuncLeaves
import Derived.OrdersIn
import Derived.Laws.IdiomCopy
import Derived.Laws.Append
import Derived.Laws.IdiomRangeMap
import Derived.ChangeKeysEq
import Derived.Laws.StructEq
import Derived.Laws.Slices
import Derived.Laws.MakeOwn
import Derived.Laws.IdiomStrings
set_option linter.unusedSimpArgs false
set_option linter.unusedVariables false

namespace Dv
open Go

/-- Values as data. 'h..': into the call's own heap; 'v..': contents, never written again; 'g..': package-level variables. -/
inductive AV where
  | bool (b : Bool)
  | int (k : IntKind) (n : Int)
  | str (s : List UInt8)
  | nilptr
  | hptr (b off : Nat)
  | vptr (cells : List AV) (off : Nat)
  | gptr (g off : Nat)
  | nilslice
  | eslice
  | hslice (b off len esz kc : Nat)      -- 'kc': its capacity is at least so much
  | vslice (cells : List AV) (len : Nat)
  | nilmap
  | hmap (b : Nat)
  | vmap (keys vals : List AV)
  | nilfunc
  | func (f : Nat) (first cap : List AV)
  | nilIface
  | iface (t : Nat) (v : AV)
  | agg (cells : List AV)
  | tuple (vs : List AV)
  | yield (l : Nat)
  deriving Inhabited

/-- What may be done with a block: written; only read; nothing any more. -/
inductive BSt where
  | live | ro | dead
  deriving DecidableEq, Inhabited

inductive Blk where
  | cells (st : BSt) (cs : List AV)
  | map (st : BSt) (keys vals : List AV)
  | siter (s : List UInt8) (pos : Nat)
  | loop (st : LoopState) (pending : Option Code) (ts : List AV) (params : List Nat) (assign body : Code)
  deriving Inhabited

abbrev Hp := List Blk

/-- What the evaluator asks of a type. -/
structure TyI where
  und : TypeDesc
  isAgg : Bool
  size : Nat
  bytes : Nat
  zero : Option (List AV)
  eqOk : Bool      -- '==' may look into a struct of this type
  deriving Inhabited

/-- What it asks of a function. -/
structure FnI where
  code : Code
  ntmps : Nat
  results : List ResultVar
  pure : Bool
  dual : Bool      -- inside a statement whose order is open it is called as a pure one
  deriving Inhabited

structure Env where
  ty : Nat → Option TyI
  fn : Nat → Option FnI
  glob : Nat → Option (List AV)
  ov : Nat → List AV → Option AV
  ovI : Nat → List AV → Hp → Option (AV × Hp)      -- functions that write, known by contract
  pairs : Nat → Nat → List (Nat × Nat)      -- of a region (its id, its length): operations whose places must be seen to differ

def undefV : AV := .tuple []

def AV.cells : AV → List AV
  | .agg cs => cs
  | v => [v]

/-- a list of results, all or nothing -/
def mapO {α β : Type} (f : α → Option β) : List α → Option (List β)
  | [] => some []
  | x :: xs => match f x with
    | none => none
    | some y => match mapO f xs with
      | none => none
      | some ys => some (y :: ys)

/-- what fits into one cell -/
def oneA : AV → Bool
  | .agg _ | .tuple _ => false
  | _ => true

/-! ### constants -/
def absN : Nat → Value → Option AV
  | 0, _ => none
  | n + 1, v => match v with
    | .bool b => some (.bool b)
    | .int k n => some (.int k n)
    | .string s => some (.str s.data.toList)
    | .pointer none => some .nilptr
    | .slice none 0 0 => some .nilslice
    | .map none => some .nilmap
    | .nilFunc => some .nilfunc
    | .nilIface => some .nilIface
    | .agg cs => (mapO (absN n) cs.toList).map .agg
    | .tuple cs => (mapO (absN n) cs.toList).map .tuple
    | .iface t v => (absN n v).map (.iface t)
    | _ => none
def absV (v : Value) : Option AV := absN 20 v

/-! ### freezing -/
mutual
def isPure : AV → Bool
  | .hptr .. | .hslice .. | .hmap _ | .yield _ => false
  | .agg cs => isPureL cs
  | .tuple cs => isPureL cs
  | .iface _ v => isPure v
  | .func _ a b => isPureL a && isPureL b
  | _ => true
def isPureL : List AV → Bool
  | [] => true
  | x :: xs => isPure x && isPureL xs
end

/-- values that hold no reference to memory -/
def refFree : AV → Bool
  | .bool _ | .int .. | .str _ | .nilptr | .nilslice | .eslice | .nilmap | .nilfunc | .nilIface => true
  | .agg cs => refFreeL cs
  | .tuple cs => refFreeL cs
  | _ => false
where
  refFreeL : List AV → Bool
  | [] => true
  | x :: xs => refFree x && refFreeL xs

/-- the contents of a value, and the blocks that were met -/
def fz (H : Hp) : Nat → AV → Option (AV × List Nat)
  | 0, _ => none
  | n + 1, av =>
    let l (cs : List AV) : Option (List AV × List Nat) := (mapO (fz H n) cs).map fun r => (r.map (·.1), r.flatMap (·.2))
    match av with
    | .hptr b off => match H[b]? with
      | some (.cells st cs) => if st = .dead then none else (l cs).map fun (c, bs) => (.vptr c off, b :: bs)
      | _ => none
    | .hslice b off len esz _ => match H[b]? with
      | some (.cells st cs) => if st = .dead || cs.length < off + len * esz then none else
        (l ((cs.drop off).take (len * esz))).map fun (c, bs) => (.vslice c len, b :: bs)
      | _ => none
    | .hmap b => match H[b]? with
      | some (.map st ks vs) => if st = .dead then none else match l ks, l vs with
        | some (k, b1), some (v, b2) => some (.vmap k v, b :: (b1 ++ b2))
        | _, _ => none
      | _ => none
    | .agg cs => (l cs).map fun (c, bs) => (.agg c, bs)
    | .tuple cs => (l cs).map fun (c, bs) => (.tuple c, bs)
    | .iface t v => (fz H n v).map fun (c, bs) => (.iface t c, bs)
    | .func f a c => match l a, l c with
      | some (a, b1), some (c, b2) => some (.func f a c, b1 ++ b2)
      | _, _ => none
    | .yield _ => none
    | v => some (v, [])

def Blk.toRo : Blk → Blk
  | .cells .live cs => .cells .ro cs
  | .map .live ks vs => .map .ro ks vs
  | b => b

def mark (H : Hp) (bs : List Nat) : Hp := bs.foldl (fun H b => H.modify b Blk.toRo) H

/-- freeze a list of values: their contents, and the blocks that they reach -/
def freezeL (H : Hp) (vs : List AV) : Option (List AV × List Nat) :=
  if isPureL vs then some (vs, []) else
  match mapO (fz H 40) vs with
  | none => none
  | some r => some (r.map (·.1), r.flatMap (·.2))

/-- what an operation does to the heap -/
inductive Eff where
  | sets (l : List (Nat × Blk))
  | marks (l : List Nat)
  | looks (l : List Nat)
  | big (H : Hp)

def putB (H : Hp) (b : Nat) (x : Blk) : Hp := if b < H.length then H.set b x else H ++ [x]

def Eff.app (H : Hp) : Eff → Hp
  | .sets l => l.foldl (fun H p => putB H p.1 p.2) H
  | .marks l => mark H l
  | .looks _ => H
  | .big H' => H'

/-! ### operations without a heap -/
def wrapK (k : IntKind) (n : Int) : Int := k.wrap n

def intE (op : BinOp) (k : IntKind) (a b : Int) : Option AV :=
  match op with
  | .add => some (.int k (wrapK k (a + b)))
  | .sub => some (.int k (wrapK k (a - b)))
  | .mul => some (.int k (wrapK k (a * b)))
  | .quo => if b = 0 then none else some (.int k (wrapK k (a.tdiv b)))
  | .rem => if b = 0 then none else some (.int k (a.tmod b))
  | .and => some (.int k (wrapK k (BitVec.ofInt k.bits a &&& BitVec.ofInt k.bits b).toNat))
  | .or => some (.int k (wrapK k (BitVec.ofInt k.bits a ||| BitVec.ofInt k.bits b).toNat))
  | .xor => some (.int k (wrapK k (BitVec.ofInt k.bits a ^^^ BitVec.ofInt k.bits b).toNat))
  | .andNot => some (.int k (wrapK k (BitVec.ofInt k.bits a &&& ~~~BitVec.ofInt k.bits b).toNat))
  | .eql => some (.bool (a == b))
  | .neq => some (.bool (a != b))
  | .lss => some (.bool (a < b))
  | .leq => some (.bool (a ≤ b))
  | .gtr => some (.bool (a > b))
  | .geq => some (.bool (a ≥ b))
  | _ => none

def strE (op : BinOp) (a b : List UInt8) : Option AV :=
  match op with
  | .add => if ((a.length + b.length : Nat) : Int) > 9223372036854775807 then none else some (.str (a ++ b))
  | .eql => some (.bool (a == b))
  | .neq => some (.bool (!(a == b)))
  | .lss => some (.bool (Op.bytesLess a b))
  | .leq => some (.bool (Op.bytesLess a b || a == b))
  | .gtr => some (.bool (!(Op.bytesLess a b || a == b)))
  | .geq => some (.bool (!Op.bytesLess a b))
  | _ => none

def partE (E : Env) (t : Nat) (cs : List AV) (off : Nat) : Option AV :=
  match E.ty t with
  | none => none
  | some i => if i.isAgg then (if off + i.size ≤ cs.length then some (.agg ((cs.drop off).take i.size)) else none) else cs[off]?

/-- all fields equal, in order, the first difference ends it -/
def eqFields (E : Env) (eq : Nat → AV → AV → Option Bool) (xs ys : List AV) : List Field → Option Bool
  | [] => some true
  | f :: fs =>
    if f.name = "_" then none else
    match partE E f.type xs f.offset, partE E f.type ys f.offset with
    | some a, some b => match eq f.type a b with
      | some true => eqFields E eq xs ys fs
      | some false => some false
      | none => none
    | _, _ => none

def eqElems (E : Env) (eq : Nat → AV → AV → Option Bool) (elem size : Nat) (xs ys : List AV) : Nat → Nat → Option Bool
  | 0, _ => some true
  | m + 1, i =>
    match partE E elem xs (i * size), partE E elem ys (i * size) with
    | some a, some b => match eq elem a b with
      | some true => eqElems E eq elem size xs ys m (i + 1)
      | some false => some false
      | none => none
    | _, _ => none

/-- '==' at a type -/
def eqE (E : Env) : Nat → Nat → AV → AV → Option Bool
  | 0, _, _, _ => none
  | n + 1, t, x, y =>
    match E.ty t with
    | none => none
    | some i =>
    match i.und, x, y with
    | .bool, .bool a, .bool b => some (a == b)
    | .int _, .int k a, .int k' b => if k = k' then some (a == b) else none
    | .string, .str a, .str b => some (a == b)
    | .struct fields, .agg xs, .agg ys => if !i.eqOk then none else eqFields E (eqE E n) xs ys fields.toList
    | .array len elem, .agg xs, .agg ys => match E.ty elem with
      | none => none
      | some ei => eqElems E (eqE E n) elem ei.size xs ys len 0
    | .pointer _, .nilptr, .nilptr => some true
    | .pointer _, .nilptr, .hptr .. | .pointer _, .nilptr, .vptr .. | .pointer _, .hptr .., .nilptr | .pointer _, .vptr .., .nilptr => some false
    | .slice _, .nilslice, .nilslice => some true
    | .slice _, .nilslice, .hslice .. | .slice _, .nilslice, .vslice .. | .slice _, .nilslice, .eslice
    | .slice _, .hslice .., .nilslice | .slice _, .vslice .., .nilslice | .slice _, .eslice, .nilslice => some false
    | .map _ _, .nilmap, .nilmap => some true
    | .map _ _, .nilmap, .hmap _ | .map _ _, .nilmap, .vmap .. | .map _ _, .hmap _, .nilmap | .map _ _, .vmap .., .nilmap => some false
    | .func _ _ _, .nilfunc, .nilfunc => some true
    | .func _ _ _, .nilfunc, .func .. | .func _ _ _, .func .., .nilfunc => some false
    | .interface _, .nilIface, .nilIface => some true
    | .interface _, .nilIface, .iface .. | .interface _, .iface .., .nilIface => some false
    | _, _, _ => none

/-- 'c': one of the operands is written as a constant -/
def binE (E : Env) (c : Bool) (op : BinOp) (t : Nat) (x y : AV) : Option AV :=
  match op, x, y with
  | .shl, .int k a, .int _ b => if b < 0 then none else some (.int k (wrapK k (a * 2 ^ (min b.toNat k.bits))))
  | .shr, .int k a, .int _ b => if b < 0 then none else some (.int k (a.fdiv (2 ^ (min b.toNat k.bits))))
  | op, .int k a, .int k' b => if k ≠ k' then none else intE op k a b
  | op, .str a, .str b => strE op a b
  | .eql, x, y => (eqTop x y).bind fun ok => if ok then (eqE E 20 t x y).map .bool else none
  | .neq, x, y => (eqTop x y).bind fun ok => if ok then (eqE E 20 t x y).map (fun b => .bool (!b)) else none
  | _, _, _ => none
where
  eqTop (x y : AV) : Option Bool := match x, y with
    | .agg _, .agg _ => (E.ty t).map (·.eqOk)
    | .nilIface, .nilIface => some c
    | _, _ => some true

def unE (op : UnOp) (x : AV) : Option AV :=
  match op, x with
  | .neg, .int k n => some (.int k (wrapK k (0 - n)))
  | .xor, .int k n => intE .xor k (if k.signed then -1 else k.max) n
  | .not, .bool b => some (.bool !b)
  | _, _ => none

def fillE (place : Nat → Option (Nat × Nat)) (cells : List AV) : List (Nat × AV) → Option (List AV)
  | [] => some cells
  | (i, v) :: rest =>
    match place i with
    | none => none
    | some (off, size) =>
      if v.cells.length ≠ size || off + size > cells.length then none
      else fillE place (cells.take off ++ v.cells ++ cells.drop (off + size)) rest

def repE (zero : List AV) : Nat → List AV
  | 0 => []
  | n + 1 => zero ++ repE zero n

def placesE (E : Env) (t : Nat) : Option (Nat → Option (Nat × Nat)) :=
  match E.ty t with
  | some { und := .struct fields, .. } => if fields.toList.all (fun f => (E.ty f.type).isSome) then some fun i => match fields[i]? with
    | some f => (E.ty f.type).map fun fi => (f.offset, fi.size)
    | none => none
    else none
  | some { und := .array _ elem, .. } => (E.ty elem).map fun ei => fun i => some (i * ei.size, ei.size)
  | _ => none

/-! ### operations on the heap -/
/-- the block behind a pointer: its cells, and the place -/
def ptrE (E : Env) (H : Hp) : AV → Option (List AV × Nat)
  | .hptr b off => match H[b]? with
    | some (.cells st cs) => if st = .dead then none else some (cs, off)
    | _ => none
  | .vptr cs off => some (cs, off)
  | .gptr g off => (E.glob g).map fun cs => (cs, off)
  | _ => none

def loadE (E : Env) (H : Hp) (t : Nat) (p : AV) : Option AV :=
  match ptrE E H p with
  | some (cs, off) => partE E t cs off
  | none => none

def spliceL (cs : List AV) (off : Nat) (xs : List AV) : List AV := cs.take off ++ xs ++ cs.drop (off + xs.length)

def storeE (E : Env) (H : Hp) (t : Nat) (p v : AV) : Option (List (Nat × Blk)) :=
  match p, E.ty t with
  | .hptr b off, some i => match H[b]? with
    | some (.cells .live cs) =>
      if v.cells.length ≠ i.size || off + i.size > cs.length || !v.cells.all oneA then none
      else some [(b, .cells .live (spliceL cs off v.cells))]
    | _ => none
  | _, _ => none

def asNat (lim : Nat) : AV → Option Nat
  | .int _ n => if 0 ≤ n ∧ n ≤ lim then some n.toNat else none
  | _ => none

def hiE (len kc : Nat) : Option AV → Option Nat
  | none => some len
  | some v => asNat kc v
def loE (h : Nat) : Option AV → Option Nat
  | none => some 0
  | some v => asNat h v

/-- bounds of a slice expression over something of length 'len', of a capacity of at least 'kc' -/
def boundsE (len kc : Nat) (lo hi : Option AV) : Option (Nat × Nat) :=
  match hiE len kc hi with
  | none => none
  | some h => match loE h lo with
    | none => none
    | some l => some (l, h)

def sliceE (E : Env) (t : Nat) (x : AV) (lo hi : Option AV) : Option AV :=
  match E.ty t with
  | none => none
  | some i =>
  match i.und, x with
  | .string, .str s => (boundsE s.length s.length lo hi).map fun (l, h) => .str ((s.drop l).take (h - l))
  | .slice e, .nilslice => match E.ty e, boundsE 0 0 lo hi with
    | some _, some _ => some .nilslice
    | _, _ => none
  | .slice e, .eslice => match E.ty e, boundsE 0 0 lo hi with
    | some _, some _ => some .eslice
    | _, _ => none
  | .slice e, .hslice b off len esz kc => match E.ty e, boundsE len kc lo hi with
    | some ei, some (l, h) => if ei.size ≠ esz then none
      else if l = 0 then some (.hslice b off h esz kc)
      else if l = h then some .eslice
      else some (.hslice b (off + l * esz) (h - l) esz (kc - l))
    | _, _ => none
  | .slice e, .vslice cs len => match E.ty e, boundsE len len lo hi with
    | some ei, some (l, h) =>
      if l = h then some .eslice
      else some (.vslice ((cs.drop (l * ei.size)).take ((h - l) * ei.size)) (h - l))
    | _, _ => none
  | _, _ => none

/-- a slice of an array's variable -/
def sliceArrE (E : Env) (H : Hp) (t : Nat) (p : AV) (lo hi : Option AV) : Option AV :=
  match E.ty t with
  | some { und := .array n e, .. } => match E.ty e, boundsE n n lo hi with
    | some ei, some (l, h) =>
      match p with
      | .hptr b off => match H[b]? with
        | some (.cells st cs) => if st = .dead ∨ cs.length < off + n * ei.size ∨ cs.length = 0 then none else
          if l = h then some .eslice else some (.hslice b (off + l * ei.size) (h - l) ei.size (n - l))
        | _ => none
      | .vptr cs off => if l = h then some .eslice else some (.vslice ((cs.drop (off + l * ei.size)).take ((h - l) * ei.size)) (h - l))
      | _ => none
    | _, _ => none
  | _ => none

def indexAddrE (E : Env) (t : Nat) (x ix : AV) : Option AV :=
  match E.ty t, ix with
  | some i, .int _ n =>
    match i.und with
    | .array len e => match E.ty e with
      | some ei => if 0 ≤ n ∧ n < len then (match x with
        | .hptr b off => some (.hptr b (off + n.toNat * ei.size))
        | .vptr cs off => some (.vptr cs (off + n.toNat * ei.size))
        | .gptr g off => some (.gptr g (off + n.toNat * ei.size))
        | _ => none) else none
      | none => none
    | .slice e => match E.ty e with
      | some ei => (match x with
        | .hslice b off len esz _ => if esz = ei.size ∧ 0 ≤ n ∧ n < len then some (.hptr b (off + n.toNat * esz)) else none
        | .vslice cs len => if 0 ≤ n ∧ n < len then some (.vptr cs (n.toNat * ei.size)) else none
        | _ => none)
      | none => none
    | _ => none
  | _, _ => none

def indexE (E : Env) (t : Nat) (x ix : AV) : Option AV :=
  match E.ty t, ix with
  | some i, .int _ n =>
    match i.und, x with
    | .array len e, .agg cs => match E.ty e with
      | some ei => if 0 ≤ n ∧ n < len then partE E e cs (n.toNat * ei.size) else none
      | none => none
    | .string, .str s => if 0 ≤ n then (s[n.toNat]?).map fun b => .int .u8 b.toNat else none
    | _, _ => none
  | _, _ => none

def fieldAddrE (E : Env) (t : Nat) (x : AV) (f : Nat) : Option AV :=
  match E.ty t with
  | some { und := .struct fields, .. } => match fields[f]? with
    | some fd => match E.ty fd.type with
      | some fi => if fi.size = 0 then none else (match x with
        | .hptr b off => some (.hptr b (off + fd.offset))
        | .vptr cs off => some (.vptr cs (off + fd.offset))
        | .gptr g off => some (.gptr g (off + fd.offset))
        | _ => none)
      | none => none
    | none => none
  | _ => none

def fieldE (E : Env) (t : Nat) (x : AV) (f : Nat) : Option AV :=
  match E.ty t, x with
  | some { und := .struct fields, .. }, .agg cs => match fields[f]? with
    | some fd => partE E fd.type cs fd.offset
    | none => none
  | _, _ => none

def convE (E : Env) (src dst : Nat) (x : AV) : Option AV :=
  match E.ty src, E.ty dst, x with
  | some _, some { und := .int k, .. }, .int _ n => some (.int k (wrapK k n))
  | some _, some { und := .string, .. }, .str s => some (.str s)
  | _, _, _ => none

/-- bytes of cells -/
def bytesE : List AV → Option (List UInt8)
  | [] => some []
  | .int .u8 n :: cs => (bytesE cs).map (UInt8.ofNat n.toNat :: ·)
  | _ => none

/-- the cells of a slice that is read -/
def cellsE (H : Hp) (esz : Nat) : AV → Option (List AV)
  | .nilslice | .eslice => some []
  | .vslice cs len => if cs.length = len * esz then some cs else none
  | .hslice b off len e _ => if e ≠ esz then none else match H[b]? with
    | some (.cells st cs) => if st = .dead ∨ cs.length < off + len * esz then none else some ((cs.drop off).take (len * esz))
    | _ => none
  | _ => none

def lenE : AV → Option Nat
  | .nilslice | .eslice => some 0
  | .vslice _ n => some n
  | .hslice _ _ n _ _ => some n
  | .str s => some s.length
  | _ => none

/-- types of keys that can be asked without more ado -/
def plainKey (E : Env) : Nat → Nat → Bool
  | 0, _ => false
  | n + 1, t => match E.ty t with
    | some i => (match i.und with
      | .int _ | .string | .bool => true
      | .array _ e => plainKey E n e
      | .struct fs => i.eqOk && fs.toList.all fun f => plainKey E n f.type
      | _ => false)
    | none => false

def keyNow (E : Env) (kt : Nat) (k x : AV) : Option Bool := eqE E 20 kt k x

/-- plain data that are the same -/
def sameAV : Nat → AV → AV → Bool
  | _, .bool a, .bool b => a == b
  | _, .int k a, .int j b => k == j && a == b
  | _, .str a, .str b => a == b
  | n + 1, .agg xs, .agg ys => xs.length == ys.length && (xs.zip ys).all fun (x, y) => sameAV n x y
  | _, _, _ => false

def findE (eq : AV → AV → Option Bool) (k : AV) : List AV → List AV → Nat → Option (Option (Nat × AV))
  | x :: xs, v :: vs, i => match eq k x with
    | some true => some (some (i, v))
    | some false => findE eq k xs vs (i + 1)
    | none => none
  | [], [], _ => some none
  | _, _, _ => none


def zeroE (E : Env) (t : Nat) : Option AV :=
  match E.ty t with
  | some i => match i.zero with
    | some cs => if i.isAgg then some (.agg cs) else (match cs with | [c] => some c | _ => none)
    | none => none
  | none => none

def mapE (H : Hp) : AV → Option (List AV × List AV)
  | .nilmap => some ([], [])
  | .vmap ks vs => some (ks, vs)
  | .hmap b => match H[b]? with
    | some (.map st ks vs) => if st = .dead then none else some (ks, vs)
    | _ => none
  | _ => none

def lookupE (E : Env) (H : Hp) (t : Nat) (m k : AV) (ok : Bool) : Option AV :=
  match E.ty t with
  | some { und := .map kt et, .. } => match mapE H m with
    | some (ks, vs) => if !plainKey E 20 kt || keyNow E kt k k != some true then none else match findE (keyNow E kt) k ks vs 0 with
      | some (some (_, v)) => some (if ok then .tuple [v, .bool true] else v)
      | some none => (zeroE E et).map fun z => if ok then .tuple [z, .bool false] else z
      | none => none
    | none => none
  | _ => none

def mapUpdateE (E : Env) (H : Hp) (t : Nat) (m k v : AV) : Option (List (Nat × Blk)) :=
  match E.ty t, m with
  | some { und := .map kt _, .. }, .hmap b => match H[b]? with
    | some (.map .live ks vs) => if !plainKey E 20 kt then none else match keyNow E kt k k, findE (keyNow E kt) k ks vs 0 with
      | some true, some (some (i, _)) => (match ks[i]? with
        | some k0 => if sameAV 20 k0 k then some [(b, .map .live ks (vs.set i v))] else none
        | none => none)
      | some true, some none => some [(b, .map .live (ks ++ [k]) (vs ++ [v]))]
      | _, _ => none
    | _ => none
  | _, _ => none

def roomB : Nat := 140737488355328

def makeSliceE (E : Env) (nid : Nat) (t : Nat) (l c : AV) : Option (AV × List (Nat × Blk)) :=
  match E.ty t, l, c with
  | some { und := .slice e, .. }, .int _ n, .int _ m => match E.ty e with
    | some ei => match ei.zero with
      | some z =>
        if 0 ≤ n ∧ n ≤ m ∧ m.toNat * ei.bytes ≤ roomB ∧ m ≤ 4611686018427387904 ∧ z.length = ei.size ∧ 0 < ei.size then
          some (.hslice nid 0 n.toNat ei.size m.toNat, [(nid, .cells .live (repE z m.toNat))])
        else none
      | none => none
    | none => none
  | _, _, _ => none

/-- the cells of what is appended or copied -/
def srcE (H : Hp) (esz : Nat) (x : AV) : Option (List AV) :=
  match x with
  | .str b => if esz = 1 then some (b.map fun (c : UInt8) => AV.int .u8 c.toNat) else none
  | x => cellsE H esz x

/-- how many are appended, and their cells; 'iz': append(s, make([]T, n)...): x is the number n -/
def srcA (H : Hp) (ei : TyI) (iz : Bool) (x : AV) : Option (Nat × List AV) :=
  if iz then (match x, ei.zero with
    | .int _ n, some z => if 0 ≤ n ∧ n ≤ 4611686018427387904 ∧ n.toNat * ei.bytes ≤ roomB ∧ z.length = ei.size then some (n.toNat, repE z n.toNat) else none
    | _, _ => none)
  else (match lenE x, srcE H ei.size x with
    | some n, some xs => some (n, xs)
    | _, _ => none)

def appendE (E : Env) (H : Hp) (nid : Nat) (iz : Bool) (t : Nat) (s x : AV) : Option (AV × List (Nat × Blk)) :=
  match E.ty t with
  | some { und := .slice e, .. } => match E.ty e with
    | some ei =>
      match srcA H ei iz x with
      | some (n, xs) =>
        if n = 0 then (match s with | .nilslice | .eslice | .hslice .. | .vslice .. => some (s, []) | _ => none) else
        if ei.size = 0 || !xs.all oneA || ei.zero.isNone then none else
        match s with
        | .nilslice =>
          if n * ei.bytes ≤ roomB ∧ n ≤ 4611686018427387904 then some (.hslice nid 0 n ei.size n, [(nid, .cells .live xs)]) else none
        | .hslice b off len esz kc => match H[b]? with
          | some (.cells .live cs) =>
            if len + n ≤ kc then (if esz = ei.size ∧ off + (len + n) * esz ≤ cs.length then
              some (.hslice b off (len + n) esz kc, [(b, .cells .live (spliceL cs (off + len * esz) xs))]) else none) else
            if esz = ei.size ∧ off + len * esz ≤ cs.length ∧ (len + n) * ei.bytes ≤ roomB ∧ len + n ≤ 4611686018427387904 then
              some (.hslice nid 0 (len + n) esz (len + n), [(b, .cells .dead []), (nid, .cells .live ((cs.drop off).take (len * esz) ++ xs))])
            else none
          | _ => none
        | _ => none
      | none => none
    | none => none
  | _ => none

/-- append(nil, make([]T, n)...) -/
def appendZeroE (E : Env) (nid : Nat) (t : Nat) (s x : AV) : Option (AV × List (Nat × Blk)) :=
  match E.ty t, s, x with
  | some { und := .slice e, .. }, .nilslice, .int _ n => match E.ty e with
    | some ei => match ei.zero with
      | some z =>
        if 0 < n ∧ n ≤ 4611686018427387904 ∧ n.toNat * ei.bytes ≤ roomB ∧ z.length = ei.size ∧ 0 < ei.size ∧ 0 < ei.bytes then
          some (.hslice nid 0 n.toNat ei.size n.toNat, [(nid, .cells .live (repE z n.toNat))])
        else none
      | none => none
    | none => none
  | _, _, _ => none

def copyE (E : Env) (H : Hp) (t : Nat) (d x : AV) : Option (AV × List (Nat × Blk)) :=
  match E.ty t with
  | some { und := .slice e, .. } => match E.ty e with
    | some ei =>
      match lenE d, lenE x, srcE H ei.size x with
      | some dn, some xn, some xs =>
        let n := min xn dn
        if n = 0 then (match d with | .nilslice | .eslice | .hslice .. => some (.int .i64 0, []) | _ => none) else
        match d with
        | .hslice b off _ esz _ => match H[b]? with
          | some (.cells .live cs) =>
            if esz = ei.size ∧ off + n * esz ≤ cs.length ∧ xs.all oneA then
              some (.int .i64 n, [(b, .cells .live (spliceL cs off (xs.take (n * esz))))])
            else none
          | _ => none
        | _ => none
      | _, _, _ => none
    | none => none
  | _ => none

def lenOfE (E : Env) (H : Hp) (t : Nat) (x : AV) : Option AV :=
  match E.ty t, x with
  | some { und := .string, .. }, .str s => some (.int .i64 s.length)
  | some { und := .array n _, .. }, _ => some (.int .i64 n)
  | some { und := .slice _, .. }, .nilslice => some (.int .i64 0)
  | some { und := .slice _, .. }, .eslice => some (.int .i64 0)
  | some { und := .slice _, .. }, .vslice _ n => some (.int .i64 n)
  | some { und := .slice _, .. }, .hslice _ _ n _ _ => some (.int .i64 n)
  | some { und := .map _ _, .. }, m => (mapE H m).map fun (ks, _) => .int .i64 ks.length
  | _, _ => none

def max2E : AV → AV → Option AV
  | .int k x, .int k' y => if k = k' then some (.int k (if y > x then y else x)) else none
  | _, _ => none
def min2E : AV → AV → Option AV
  | .int k x, .int k' y => if k = k' then some (.int k (if y < x then y else x)) else none
  | _, _ => none
def foldE (f : AV → AV → Option AV) (x : AV) : List AV → Option AV
  | [] => some x
  | y :: ys => match f x y with
    | some z => foldE f z ys
    | none => none

def builtinE (E : Env) (H : Hp) (nid : Nat) (b : Builtin) (ats : List Nat) (args : List AV) : Option (AV × List (Nat × Blk)) :=
  match b, ats, args with
  | .append, t :: u :: _, s :: x :: _ => (match E.ty u with
    | some { und := .int _, .. } => appendZeroE E nid t s x
    | some _ => appendE E H nid false t s x
    | none => none)
  | .copy, t :: _, d :: x :: _ => copyE E H t d x
  | .cap, t :: _, .nilslice :: _ => (match E.ty t with
    | some { und := .slice _, .. } => some (.int .i64 0, [])
    | _ => none)
  | .len, t :: _, x :: _ => (lenOfE E H t x).map fun v => (v, [])
  | .max, _, x :: xs => (foldE max2E x xs).map fun v => (v, [])
  | .min, _, x :: xs => (foldE min2E x xs).map fun v => (v, [])
  | _, _, _ => none

/-! ### statements whose order is open -/
/-- what an operation has to do with the heap: nothing; it reads, or freezes what it hands over; it lays or writes blocks that its effect names; anything -/
inductive Cls where
  | n | r | s | w
  deriving DecidableEq, Repr

/-- does it lay a block? -/
def laysE (E : Env) (o : Oper) : Bool :=
  match o.op with
  | .alloc _ | .box .. | .buildSlice .. | .makeMap .. | .makeSlice .. | .range .. => true
  | .convert s d _ => (match E.ty s, E.ty d with
    | some { und := .string, .. }, some { und := .slice _, .. } => true
    | _, _ => false)
  | .call c => (match c.callee with
    | .builtin .append => true
    | _ => false)
  | _ => false

def clsE (E : Env) (o : Oper) : Cls :=
  match o.op with
  | .move _ | .assign _ | .pick .. | .build .. | .nilCheck _ | .binOp .. | .unOp .. | .makeInterface .. | .makeFunc ..
  | .fieldAddr .. | .field .. | .indexAddr .. | .index .. | .extract .. | .sliceToArrayPointer .. => .n
  | .load .. | .lookup .. => .r
  | .slice t _ _ _ _ => (match E.ty t with
    | some { und := .array .., .. } => .r
    | _ => .n)
  | .alloc _ | .box .. | .buildSlice .. | .makeMap .. | .makeSlice .. | .range .. | .next .. | .store .. | .mapUpdate .. | .insert .. => .s
  | .convert s d _ => (match E.ty s, E.ty d with
    | some { und := .string, .. }, some { und := .slice _, .. } => .s
    | _, _ => .r)
  | .call c => (match c.callee with
    | .builtin .len => .r
    | .builtin .max | .builtin .min | .builtin .cap => .n
    | .builtin .copy | .builtin .append => .s
    | .value (.func f) => (match E.fn f with
      | some { pure := false, dual := false, .. } => .w
      | _ => .r)
    | _ => .w)
  | _ => .w

/-- is operation j before operation i by the edges? -/
def pathE (ops : Array Oper) (j : Nat) : Nat → Nat → Bool
  | 0, _ => false
  | n + 1, i => match ops[i]? with
    | some o => o.after.any fun e => Region.binds .any e && (e.on == j || (e.on < i && pathE ops j n e.on))
    | none => false

def fitE (E : Env) (ps : List (Nat × Nat)) (j i : Nat) (oj oi : Oper) : Bool :=
  match clsE E oj, clsE E oi with
  | .n, _ | _, .n | .r, .r => true
  | .w, _ | _, .w => false
  | _, _ => ps.contains (j, i)

def orderOk (E : Env) (ps : List (Nat × Nat)) (ops : Array Oper) : Bool :=
  (List.range ops.size).all fun i => match ops[i]? with
    | some oi => (oi.after.all fun e => !Region.binds .any e || e.on < i) && (List.range i).all fun j =>
        match ops[j]? with
        | some oj => (oi.apart ops oj && fitE E ps j i oj oi) || pathE ops j ops.size i
        | none => true
    | none => true

/-- no loop over a function within -/
def flat : Code → Bool
  | .rangeFunc .. => false
  | .seq a b => flat a && flat b
  | .cond _ a b => flat a && flat b
  | .block _ a => flat a
  | .loop a => flat a
  | .scope a => flat a
  | _ => true

def codeOk (E : Env) : Code → Bool
  | .region id ops draw => !draw || orderOk E (E.pairs id ops.size) ops
  | .seq a b => codeOk E a && codeOk E b
  | .cond _ a b => codeOk E a && codeOk E b
  | .block _ a => codeOk E a
  | .loop a => codeOk E a
  | .rangeFunc _ _ a b => codeOk E a && codeOk E b && flat a && flat b
  | .scope a => codeOk E a
  | _ => true

/-! ### the code -/
abbrev Pc := Nat → List AV → Option AV
abbrev Ic := Nat → List AV → Hp → Option (AV × Hp)

def evO (tmps : List AV) : Operand → Option AV
  | .tmp t => some (tmps[t]?.getD undefV)
  | .const v => absV v
  | .func f => some (.func f [] [])
  | .global g => some (.gptr g 0)

def evL (tmps : List AV) : List Operand → Option (List AV)
  | [] => some []
  | x :: xs => match evO tmps x with
    | none => none
    | some v => match evL tmps xs with
      | none => none
      | some vs => some (v :: vs)

def evP (tmps : List AV) : List (Nat × Operand) → Option (List (Nat × AV))
  | [] => some []
  | (i, x) :: xs => match evO tmps x with
    | none => none
    | some v => match evP tmps xs with
      | none => none
      | some vs => some ((i, v) :: vs)

def evOpt (tmps : List AV) : Option Operand → Option (Option AV)
  | none => some none
  | some x => (evO tmps x).map some

/-- a call of a Go function -/
def callE (E : Env) (pc : Pc) (ic yc : Ic) (dr : Bool) (H : Hp) (fv : AV) (args : List AV) : Option (AV × Eff) :=
  match fv with
  | .yield l => (yc l args H).map fun (v, h) => (v, .big h)
  | .func f first cap =>
    let all := first ++ args ++ cap
    let asPure : Bool := match E.fn f with
      | some { pure := false, dual := d, .. } => d && dr
      | _ => true
    if asPure then
      match freezeL H all with
      | some (as, bs) => (pc f as).map fun v => (v, if refFree v then .looks bs else .marks bs)
      | none => none
    else (ic f all H).map fun (v, h) => (v, .big h)
  | _ => none

def isConstO : Operand → Bool
  | .const _ => true
  | _ => false

def isStatic : Operand → Bool
  | .func _ => true
  | _ => false

def opE (E : Env) (pc : Pc) (ic yc : Ic) (dr : Bool) (ts : List AV) (H : Hp) (nid : Nat) (o : Oper) : Option (AV × Eff) :=
  let v (r : Option AV) : Option (AV × Eff) := r.map fun x => (x, .sets [])
  let u (r : Option (List (Nat × Blk))) : Option (AV × Eff) := r.map fun l => (undefV, .sets l)
  let b (r : Option (AV × List (Nat × Blk))) : Option (AV × Eff) := r.map fun (x, l) => (x, .sets l)
  match o.op with
  | .move x | .assign x => v (evO ts x)
  | .pick c a b => (match evO ts c with
    | some (.bool t) => v (evO ts (if t then a else b))
    | _ => none)
  | .alloc t => b ((zeroE E t).map fun z => (.hptr nid 0, [(nid, .cells .live z.cells)]))
  | .box _ x => b ((evO ts x).map fun z => (.hptr nid 0, [(nid, .cells .live z.cells)]))
  | .build t ps => (match placesE E t, (E.ty t).bind (·.zero), evP ts ps.toList with
    | some pl, some z, some vs => v ((fillE pl z vs).map .agg)
    | _, _, _ => none)
  | .buildSlice t len ps => (match E.ty t with
    | some { und := .slice e, .. } => (match E.ty e with
      | some ei => (match ei.zero, evP ts ps.toList with
        | some z, some vs => if z.length = ei.size ∧ 0 < ei.size ∧ len * ei.size ≤ 16777216 then
            b ((fillE (fun i => some (i * ei.size, ei.size)) (repE z len) vs).map fun cs =>
              (.hslice nid 0 len ei.size len, [(nid, .cells .live cs)]))
          else none
        | _, _ => none)
      | none => none)
    | _ => none)
  | .load t a => (match evO ts a with | some p => v (loadE E H t p) | none => none)
  | .store t a x => (match evO ts a, evO ts x with | some p, some z => u (storeE E H t p z) | _, _ => none)
  | .nilCheck x => (match evO ts x with
    | some (.hptr b off) => v (some (.hptr b off))
    | some (.vptr cs off) => v (some (.vptr cs off))
    | some (.gptr g off) => v (some (.gptr g off))
    | some (.func f a b) => v (some (.func f a b))
    | some (.yield l) => v (some (.yield l))
    | _ => none)
  | .binOp op t x y _ => (match evO ts x, evO ts y with | some a, some b => v (binE E (isConstO x || isConstO y) op t a b) | _, _ => none)
  | .unOp op _ x => (match evO ts x with | some a => v (unE op a) | none => none)
  | .convert s d x => (match evO ts x, E.ty s, E.ty d with
    | some (.str z), some { und := .string, .. }, some { und := .slice e, .. } => (match E.ty e with
      | some { und := .int .u8, size := 1, .. } => b (some (.hslice nid 0 z.length 1 z.length, [(nid, .cells .live (z.map fun c => .int .u8 c.toNat))]))
      | _ => none)
    | some x, some { und := .slice e, .. }, some { und := .string, .. } => (match E.ty e, cellsE H 1 x with
      | some { und := .int .u8, size := 1, .. }, some cs => v ((bytesE cs).map .str)
      | _, _ => none)
    | some x, _, _ => v (convE E s d x)
    | _, _, _ => none)
  | .makeInterface t x => (match E.ty t with
    | some i => (match i.und with
      | .interface _ => none
      | _ => v ((evO ts x).map (.iface t)))
    | none => none)
  | .makeFunc (.func f) first cap => (match evL ts first.toList, evL ts cap.toList with
    | some a, some c => v (some (.func f a c))
    | _, _ => none)
  | .makeMap t r => (match E.ty t, evOpt ts r with
    | some { und := .map _ _, .. }, some none => b (some (.hmap nid, [(nid, .map .live [] [])]))
    | some { und := .map _ _, .. }, some (some (.int _ _)) => b (some (.hmap nid, [(nid, .map .live [] [])]))
    | _, _ => none)
  | .makeSlice t l c => (match evO ts l, evO ts c with | some x, some y => b (makeSliceE E nid t x y) | _, _ => none)
  | .slice t x lo hi mx => (match evO ts x, evOpt ts lo, evOpt ts hi, mx with
    | some a, some l, some h, none => (match E.ty t with
      | some { und := .array .., .. } => v (sliceArrE E H t a l h)
      | _ => v (sliceE E t a l h))
    | _, _, _, _ => none)
  | .fieldAddr t x f => (match evO ts x with | some a => v (fieldAddrE E t a f) | none => none)
  | .field t x f => (match evO ts x with | some a => v (fieldE E t a f) | none => none)
  | .indexAddr t x i => (match evO ts x, evO ts i with | some a, some b => v (indexAddrE E t a b) | _, _ => none)
  | .index t x i => (match evO ts x, evO ts i with | some a, some b => v (indexE E t a b) | _, _ => none)
  | .lookup t x i ok => (match evO ts x, evO ts i with | some a, some b => v (lookupE E H t a b ok) | _, _ => none)
  | .mapUpdate t m k x | .insert t m k x => (match evO ts m, evO ts k, evO ts x with
    | some a, some b, some c => u (mapUpdateE E H t a b c)
    | _, _, _ => none)
  | .sliceToArrayPointer t x => (match E.ty t, evO ts x with
    | some { und := .array n _, .. }, some (.hslice b off len _ _) => if len < n then none else v (some (.hptr b off))
    | some { und := .array n _, .. }, some (.vslice cs len) => if len < n then none else v (some (.vptr cs 0))
    | _, _ => none)
  | .range t x => (match E.ty t, evO ts x with
    | some { und := .string, .. }, some (.str z) => b (some (.hptr nid 0, [(nid, .siter z 0)]))
    | _, _ => none)
  | .next it true => (match evO ts it with
    | some (.hptr i 0) => (match H[i]? with
      | some (.siter z pos) => if pos < z.length then
          (let d := Utf8.decode ⟨z.toArray⟩ pos
          b (some (.tuple [.bool true, .int .i64 pos, .int .i32 d.1], [(i, .siter z (pos + d.2))])))
        else v (some (.tuple [.bool false]))
      | _ => none)
    | _ => none)
  | .extract t i => (match evO ts t with
    | some (.tuple vs) => v vs[i]?
    | _ => none)
  | .call c => (match c.callee with
    | .builtin bi => (match evL ts c.args.toList with
      | some as => b (builtinE E H nid bi c.argTypes.toList as)
      | none => none)
    | .value f => (match evO ts f, evL ts c.args.toList with
      | some fv, some as => callE E pc ic yc (dr && isStatic f) H fv as
      | _, _ => none)
    | _ => none)
  | _ => none

def putE (dst : Option Nat) (v : AV) (ts : List AV) : List AV :=
  match dst with
  | some d => ts.set d v
  | none => ts

def wantedE (ops : List Oper) (ts : List AV) (o : Oper) : Bool :=
  match o.guard with
  | none => true
  | some (j, want) => match (ops[j]?).bind (·.dst) with
    | none => false
    | some d => match ts[d]? with
      | some (.bool b) => b == want
      | _ => false

/-- one operation: guard, work, slot -/
def stepE (E : Env) (pc : Pc) (ic yc : Ic) (dr : Bool) (ops : List Oper) (nid : Nat) (o : Oper) (ts : List AV) (H : Hp) : Option (List AV × Eff) :=
  if wantedE ops ts o then
    match opE E pc ic yc dr ts H nid o with
    | some (v, e) => some (putE o.dst v ts, e)
    | none => none
  else some (putE o.dst undefV ts, .sets [])

/-- a statement whose order is fixed -/
def opsE (E : Env) (pc : Pc) (ic yc : Ic) (ops : List Oper) : List Oper → List AV → Hp → Option (List AV × Hp)
  | [], ts, H => some (ts, H)
  | o :: rest, ts, H => match stepE E pc ic yc false ops H.length o ts H with
    | some (ts', e) => opsE E pc ic yc ops rest ts' (e.app H)
    | none => none

def rootB : AV → List Nat
  | .hptr b _ | .hslice b _ _ _ _ | .hmap b => [b]
  | _ => []

/-- the blocks that an operation's operands name -/
def rootsE (ts : List AV) (o : Oper) : List Nat :=
  o.op.operands.toList.flatMap fun x => match evO ts x with
    | some v => rootB v
    | none => []

/-- what an operation looked at, and what it wrote -/
def touchE (E : Env) (ts : List AV) (o : Oper) (e : Eff) : List Nat × List Nat :=
  match clsE E o with
  | .n => ([], [])
  | _ => match e with
    | .sets l => (rootsE ts o, l.map (·.1))
    | .marks l => (l, [])
    | .looks l => (l, [])
    | .big _ => ([], [])

/-- a block whose number is kept free -/
def deadB : Blk := .cells .dead [undefV]

def isRes : Option Blk → Bool
  | some (.cells .dead [.tuple []]) => true
  | _ => false

/-- a statement whose order is open, in the order of its text: new blocks have their numbers beforehand; what each operation touched -/
def opsD (E : Env) (pc : Pc) (ic yc : Ic) (ops : List Oper) : List Oper → Nat → List AV → Hp → Option (List AV × Hp × List (List Nat × List Nat))
  | [], _, ts, H => some (ts, H, [])
  | o :: rest, nid, ts, H => if laysE E o && !isRes H[nid]? then none else
    match stepE E pc ic yc true ops nid o ts H with
    | some (ts', e) => match opsD E pc ic yc ops rest (if laysE E o then nid + 1 else nid) ts' (e.app H) with
      | some (t, h, l) => some (t, h, touchE E ts o e :: l)
      | none => none
    | none => none

def apartL (a b : List Nat) : Bool := a.all fun x => !b.contains x

def pairOk (l : List (List Nat × List Nat)) (p : Nat × Nat) : Bool :=
  match l[p.1]?, l[p.2]? with
  | some (r1, w1), some (r2, w2) => apartL w1 r2 && apartL w1 w2 && apartL r1 w2
  | _, _ => true

def drawE (E : Env) (pc : Pc) (ic yc : Ic) (id : Nat) (ops : List Oper) (ts : List AV) (H : Hp) : Option (List AV × Hp) :=
  match opsD E pc ic yc ops ops H.length ts (H ++ List.replicate (ops.countP (laysE E)) deadB) with
  | some (t, h, l) => if (E.pairs id ops.length).all (pairOk l) then some (t, h) else none
  | none => none

inductive Ex where
  | normal
  | exit (id : Nat)
  | ret
  deriving DecidableEq

def resE (H : Hp) (E : Env) (ts : List AV) : List ResultVar → Option (List AV)
  | [] => some []
  | .tmp t :: rs => (resE H E ts rs).map fun vs => ts[t]?.getD undefV :: vs
  | .cell a t :: rs => match loadE E H t (ts[a]?.getD undefV), resE H E ts rs with
    | some v, some vs => some (v :: vs)
    | _, _ => none

def oneE : List AV → AV
  | [v] => v
  | vs => .tuple vs

abbrev Cd := Code → List AV → Hp → Option (Ex × List AV × Hp)

/-- a call in a heap of its own: what comes back is data -/
def runP (E : Env) (rec : Cd) : Pc := fun f args =>
  match E.ov f args with
  | some r => some r
  | none => match E.fn f with
    | some fi => if !(fi.pure || fi.dual) then none else
      match rec fi.code (args ++ List.replicate (fi.ntmps - args.length) undefV) [] with
      | some (.exit _, _, _) => none
      | some (_, ts, H) => match resE H E ts fi.results with
        | some vs => match freezeL H [oneE vs] with
          | some ([v], _) => some v
          | _ => none
        | none => none
      | none => none
    | none => none

/-- a call in the caller's heap -/
def runI0 (E : Env) (rec : Cd) : Ic := fun f args H =>
  match E.fn f with
  | some fi =>
    match rec fi.code (args ++ List.replicate (fi.ntmps - args.length) undefV) H with
    | some (.exit _, _, _) => none
    | some (_, ts, H') => (resE H' E ts fi.results).map fun vs => (oneE vs, H')
    | none => none
  | none => none

def runI (E : Env) (rec : Cd) : Ic := fun f args H =>
  match E.ovI f args H with
  | some r => some r
  | none => runI0 E rec f args H

def setL (ts : List AV) : List Nat → List AV → Option (List AV)
  | [], [] => some ts
  | p :: ps, a :: as => setL (ts.set p a) ps as
  | _, _ => none

/-- one round of a loop over a function -/
def runY (rec : Cd) : Ic := fun l args H =>
  match H[l]? with
  | some (.loop .ready _ ts ps assign body) => match setL ts ps args with
    | some ts' => match rec assign ts' H with
      | some (.normal, t1, H1) => match H1[l]? with
        | some (.loop .ready pend ts2 ps2 as2 b2) =>
          match rec body t1 (H1.set l (.loop .busy pend ts2 ps2 as2 b2)) with
          | some (e, _, H2) => match H2[l]? with
            | some (.loop _ _ ts3 ps3 as3 b3) => match e with
              | .normal => some (.bool true, H2.set l (.loop .ready none ts3 ps3 as3 b3))
              | .ret => some (.bool false, H2.set l (.loop .done (some .ret) ts3 ps3 as3 b3))
              | .exit id => some (.bool false, H2.set l (.loop .done (some (.exit id)) ts3 ps3 as3 b3))
            | _ => none
          | none => none
        | _ => none
      | _ => none
    | none => none
  | _ => none

def evalF (E : Env) (rec : Cd) : Cd := fun c ts H =>
  match c with
  | .skip | .label _ => some (.normal, ts, H)
  | .region id ops draw =>
    (if draw then drawE E (runP E rec) (runI E rec) (runY rec) id ops.toList ts H
      else opsE E (runP E rec) (runI E rec) (runY rec) ops.toList ops.toList ts H).map fun (t, h) => (.normal, t, h)
  | .seq a b => match rec a ts H with
    | some (.normal, ts', H') => rec b ts' H'
    | r => r
  | .cond c a b => match evO ts c with
    | some (.bool t) => rec (if t then a else b) ts H
    | _ => none
  | .block id body => match rec body ts H with
    | some (.exit id', ts', H') => if id' = id then some (.normal, ts', H') else some (.exit id', ts', H')
    | r => r
  | .loop body => match rec body ts H with
    | some (.normal, ts', H') => rec (.loop body) ts' H'
    | r => r
  | .exit id => some (.exit id, ts, H)
  | .ret => some (.ret, ts, H)
  | .rangeFunc g ps assign body => match evO ts g with
    | some (.func f first cap) =>
      match runI0 E rec f (first ++ [.yield H.length] ++ cap) (H ++ [.loop .ready none ts ps.toList assign body]) with
      | some (_, H2) => match H2[H.length]? with
        | some (.loop st pend ts3 ps3 as3 b3) =>
          if st = .busy then none else
          match pend with
          | none => some (.normal, ts, H2.set H.length (.loop .exhausted pend ts3 ps3 as3 b3))
          | some c => rec c ts (H2.set H.length (.loop .exhausted pend ts3 ps3 as3 b3))
        | _ => none
      | none => none
    | _ => none
  | _ => none

def evalC (E : Env) : Nat → Cd
  | 0 => fun _ _ _ => none
  | n + 1 => evalF E (evalC E n)

def call (E : Env) (n : Nat) : Pc := runP E (evalC E n)

end Dv

namespace Dv
open Go Go.RowKit

/-- where the call's own blocks lie: block and offset -/
abbrev Inj := Nat → Option (Nat × Nat)
def noInj : Inj := fun _ => none

mutual
/-- 'L': blocks that may still be written -/
def R (ι : Inj) (w : World) (L : Nat → Prop) : AV → Value → Prop
  | .bool b, v => v = .bool b
  | .int k n, v => v = .int k n
  | .str s, v => v = .string ⟨s.toArray⟩
  | .nilptr, v => v = .pointer none
  | .hptr b off, v => ∃ cb co, ι b = some (cb, co) ∧ v = .pointer (some ⟨cb, co + off, none⟩)
  | .vptr cs off, v => ∃ cb o c e f, v = .pointer (some ⟨cb, o + off, none⟩) ∧ w.heap[cb]? = some (.cells c e f) ∧ ¬ L cb ∧ RAt noInj w L c o cs
  | .gptr g off, v => v = .pointer (some ⟨g, off, none⟩)
  | .nilslice, v => v = .slice none 0 0
  | .eslice, v => ∃ a cap, v = .slice (some a) 0 cap
  | .hslice b off len esz kc, v => ∃ cb co cap c e f, ι b = some (cb, co) ∧ v = .slice (some ⟨cb, co + off, none⟩) len cap ∧ len ≤ kc ∧ kc ≤ cap ∧
      w.heap[cb]? = some (.cells c e f) ∧ co + off + cap * esz ≤ c.size
  | .vslice cs len, v => ∃ cb o cap c e f, v = .slice (some ⟨cb, o, none⟩) len cap ∧ len ≤ cap ∧ w.heap[cb]? = some (.cells c e f) ∧ ¬ L cb ∧ RAt noInj w L c o cs
  | .nilmap, v => v = .map none
  | .hmap b, v => ∃ cb co, ι b = some (cb, co) ∧ v = .map (some cb)
  | .vmap ks vs, v => ∃ cb es clock, v = .map (some cb) ∧ w.heap[cb]? = some (.map es clock) ∧ ¬ L cb ∧ Rs noInj w L ks (es.toList.map (·.key)) ∧ Rs noInj w L vs (es.toList.map (·.val))
  | .nilfunc, v => v = .nilFunc
  | .func f first cap, v => ∃ a c, v = .func (.func f) a c ∧ Rs ι w L first a.toList ∧ Rs ι w L cap c.toList
  | .nilIface, v => v = .nilIface
  | .iface t x, v => ∃ y, v = .iface t y ∧ R ι w L x y
  | .agg cs, v => ∃ vs, v = .agg vs ∧ Rs ι w L cs vs.toList
  | .tuple cs, v => ∃ vs, v = .tuple vs ∧ Rs ι w L cs vs.toList
  | .yield l, v => ∃ cb co, ι l = some (cb, co) ∧ v = .func (.yield cb) #[] #[]
def Rs (ι : Inj) (w : World) (L : Nat → Prop) : List AV → List Value → Prop
  | [], vs => vs = []
  | x :: xs, vs => ∃ y ys, vs = y :: ys ∧ R ι w L x y ∧ Rs ι w L xs ys
/-- cells from an offset on -/
def RAt (ι : Inj) (w : World) (L : Nat → Prop) (c : Array Value) : Nat → List AV → Prop
  | _, [] => True
  | o, x :: xs => (∃ y, c[o]? = some y ∧ R ι w L x y) ∧ RAt ι w L c (o + 1) xs
end

/-- from one world to a later one: what was not being written stays, blocks keep their size -/
structure Ext (w : World) (L : Nat → Prop) (w' : World) (L' : Nat → Prop) : Prop where
  size : w.heap.size ≤ w'.heap.size
  old : ∀ c, c < w.heap.size → ¬ L c → w'.heap[c]? = w.heap[c]? ∧ ¬ L' c
  shape : ∀ (c : Nat) (cs : Array Value) (e : TypeId) (f : Nat × Nat), w.heap[c]? = some (Obj.cells cs e f) → ∃ (cs' : Array Value) (f' : Nat × Nat), w'.heap[c]? = some (Obj.cells cs' e f') ∧ cs'.size = cs.size

theorem Ext.refl (w : World) (L : Nat → Prop) : Ext w L w L := ⟨Nat.le_refl _, fun _ _ h => ⟨rfl, h⟩, fun _ cs _ f h => ⟨cs, f, h, rfl⟩⟩

theorem Ext.trans {w w' w'' : World} {L L' L'' : Nat → Prop} (h : Ext w L w' L') (k : Ext w' L' w'' L'') : Ext w L w'' L'' :=
  ⟨Nat.le_trans h.size k.size,
   fun c hc hl => let ⟨h1, h2⟩ := h.old c hc hl; let ⟨k1, k2⟩ := k.old c (Nat.lt_of_lt_of_le hc h.size) h2; ⟨k1.trans h1, k2⟩,
   fun c cs e f hcs => let ⟨cs', f', h1, h2⟩ := h.shape c cs e f hcs; let ⟨cs'', f'', k1, k2⟩ := k.shape c cs' e f' h1; ⟨cs'', f'', k1, k2.trans h2⟩⟩

theorem lt_size_of_get {w : World} {c : Nat} {o : Obj} (h : w.heap[c]? = some o) : c < w.heap.size := by
  rcases Nat.lt_or_ge c w.heap.size with h' | h'
  · exact h'
  · simp [Array.getElem?_eq_none h'] at h

def Inj.le (ι ι' : Inj) : Prop := ∀ b p, ι b = some p → ι' b = some p
theorem Inj.le_refl (ι : Inj) : ι.le ι := fun _ _ h => h
theorem Inj.le_trans {a b c : Inj} (h : a.le b) (k : b.le c) : a.le c := fun x p hx => k x p (h x p hx)
theorem noInj_le (ι : Inj) : noInj.le ι := fun _ _ h => by cases h

/-- a block that is read only reads the same later -/
theorem Ext.keep {w w' : World} {L L' : Nat → Prop} (h : Ext w L w' L') {c : Nat} {o : Obj} (hc : w.heap[c]? = some o) (hl : ¬ L c) : w'.heap[c]? = some o ∧ ¬ L' c := by
  have := h.old c (lt_size_of_get hc) hl
  exact ⟨this.1.trans hc, this.2⟩

mutual
theorem R.ext {w w' : World} {L L' : Nat → Prop} (he : Ext w L w' L') : ∀ (av : AV) (ι ι' : Inj) (v : Value), ι.le ι' → R ι w L av v → R ι' w' L' av v
  | .bool _, _, _, _, _, h => by simpa [R] using h
  | .int _ _, _, _, _, _, h => by simpa [R] using h
  | .str _, _, _, _, _, h => by simpa [R] using h
  | .nilptr, _, _, _, _, h => by simpa [R] using h
  | .hptr _ _, _, _, _, hi, h => by
    simp only [R] at h ⊢
    obtain ⟨cb, co, h1, h2⟩ := h
    exact ⟨cb, co, hi _ _ h1, h2⟩
  | .vptr cs _, _, _, _, _, h => by
    simp only [R] at h ⊢
    obtain ⟨cb, o, c, e, f, h1, h2, h3, h4⟩ := h
    have := he.keep h2 h3
    exact ⟨cb, o, c, e, f, h1, this.1, this.2, RAt.ext he cs noInj noInj c o (Inj.le_refl _) h4⟩
  | .gptr _ _, _, _, _, _, h => by simpa [R] using h
  | .nilslice, _, _, _, _, h => by simpa [R] using h
  | .eslice, _, _, _, _, h => by simpa [R] using h
  | .hslice _ _ _ _ _, _, _, _, hi, h => by
    simp only [R] at h ⊢
    obtain ⟨cb, co, cap, c, e, f, h1, h2, h3, h4, h5, h6⟩ := h
    obtain ⟨c', f', g1, g2⟩ := he.shape cb c e f h5
    exact ⟨cb, co, cap, c', e, f', hi _ _ h1, h2, h3, h4, g1, by omega⟩
  | .vslice cs _, _, _, _, _, h => by
    simp only [R] at h ⊢
    obtain ⟨cb, o, cap, c, e, f, h1, h2, h3, h4, h5⟩ := h
    have := he.keep h3 h4
    exact ⟨cb, o, cap, c, e, f, h1, h2, this.1, this.2, RAt.ext he cs noInj noInj c o (Inj.le_refl _) h5⟩
  | .nilmap, _, _, _, _, h => by simpa [R] using h
  | .hmap _, _, _, _, hi, h => by
    simp only [R] at h ⊢
    obtain ⟨cb, co, h1, h2⟩ := h
    exact ⟨cb, co, hi _ _ h1, h2⟩
  | .vmap ks vs, _, _, _, _, h => by
    simp only [R] at h ⊢
    obtain ⟨cb, es, clock, h1, h2, h3, h4, h5⟩ := h
    have := he.keep h2 h3
    exact ⟨cb, es, clock, h1, this.1, this.2, Rs.ext he ks noInj noInj _ (Inj.le_refl _) h4, Rs.ext he vs noInj noInj _ (Inj.le_refl _) h5⟩
  | .nilfunc, _, _, _, _, h => by simpa [R] using h
  | .func _ a b, ι, ι', _, hi, h => by
    simp only [R] at h ⊢
    obtain ⟨x, y, h1, h2, h3⟩ := h
    exact ⟨x, y, h1, Rs.ext he a ι ι' _ hi h2, Rs.ext he b ι ι' _ hi h3⟩
  | .nilIface, _, _, _, _, h => by simpa [R] using h
  | .iface _ x, ι, ι', _, hi, h => by
    simp only [R] at h ⊢
    obtain ⟨y, h1, h2⟩ := h
    exact ⟨y, h1, R.ext he x ι ι' y hi h2⟩
  | .agg cs, ι, ι', _, hi, h => by
    simp only [R] at h ⊢
    obtain ⟨y, h1, h2⟩ := h
    exact ⟨y, h1, Rs.ext he cs ι ι' _ hi h2⟩
  | .tuple cs, ι, ι', _, hi, h => by
    simp only [R] at h ⊢
    obtain ⟨y, h1, h2⟩ := h
    exact ⟨y, h1, Rs.ext he cs ι ι' _ hi h2⟩
  | .yield _, _, _, _, hi, h => by
    simp only [R] at h ⊢
    obtain ⟨cb, co, h1, h2⟩ := h
    exact ⟨cb, co, hi _ _ h1, h2⟩
theorem Rs.ext {w w' : World} {L L' : Nat → Prop} (he : Ext w L w' L') : ∀ (xs : List AV) (ι ι' : Inj) (vs : List Value), ι.le ι' → Rs ι w L xs vs → Rs ι' w' L' xs vs
  | [], _, _, _, _, h => by simpa [Rs] using h
  | x :: xs, ι, ι', _, hi, h => by
    simp only [Rs] at h ⊢
    obtain ⟨y, ys, h1, h2, h3⟩ := h
    exact ⟨y, ys, h1, R.ext he x ι ι' y hi h2, Rs.ext he xs ι ι' ys hi h3⟩
theorem RAt.ext {w w' : World} {L L' : Nat → Prop} (he : Ext w L w' L') : ∀ (xs : List AV) (ι ι' : Inj) (c : Array Value) (o : Nat), ι.le ι' → RAt ι w L c o xs → RAt ι' w' L' c o xs
  | [], _, _, _, _, _, _ => by simp [RAt]
  | x :: xs, ι, ι', c, o, hi, h => by
    simp only [RAt] at h ⊢
    obtain ⟨⟨y, h1, h2⟩, h3⟩ := h
    exact ⟨⟨y, h1, R.ext he x ι ι' y hi h2⟩, RAt.ext he xs ι ι' c (o + 1) hi h3⟩
end

/-! ### lists -/
section
variable {ι : Inj} {w : World} {L : Nat → Prop}

theorem Rs.length : ∀ {xs : List AV} {vs : List Value}, Rs ι w L xs vs → vs.length = xs.length
  | [], _, h => by simp only [Rs] at h; simp [h]
  | _ :: xs, _, h => by
    simp only [Rs] at h
    obtain ⟨y, ys, rfl, _, h3⟩ := h
    simp [Rs.length h3]

theorem Rs.get : ∀ {xs : List AV} {vs : List Value} (_ : Rs ι w L xs vs) (i : Nat) (x : AV), xs[i]? = some x → ∃ v, vs[i]? = some v ∧ R ι w L x v
  | [], _, _, i, x, hx => by simp at hx
  | a :: xs, _, h, i, x, hx => by
    simp only [Rs] at h
    obtain ⟨y, ys, rfl, h2, h3⟩ := h
    cases i with
    | zero => simp at hx; subst hx; exact ⟨y, by simp, h2⟩
    | succ i => simp at hx; simpa using Rs.get h3 i x hx

theorem Rs.of_get : ∀ {xs : List AV} {vs : List Value}, vs.length = xs.length → (∀ (i : Nat) (x : AV), xs[i]? = some x → ∃ v, vs[i]? = some v ∧ R ι w L x v) → Rs ι w L xs vs
  | [], vs, hl, _ => by simp only [Rs]; simpa using hl
  | a :: xs, [], hl, _ => by simp at hl
  | a :: xs, v :: vs, hl, h => by
    simp only [Rs]
    refine ⟨v, vs, rfl, ?_, Rs.of_get (by simpa using hl) fun i x hx => ?_⟩
    · obtain ⟨u, h1, h2⟩ := h 0 a (by simp)
      simp at h1; subst h1; exact h2
    · simpa using h (i + 1) x (by simpa using hx)

theorem Rs.append {xs ys : List AV} {us vs : List Value} (h : Rs ι w L xs us) (k : Rs ι w L ys vs) : Rs ι w L (xs ++ ys) (us ++ vs) := by
  have l1 := h.length
  refine Rs.of_get (by simp [l1, k.length]) fun i x hx => ?_
  rw [List.getElem?_append] at hx ⊢
  by_cases hi : i < xs.length
  · rw [if_pos hi] at hx; rw [if_pos (by omega)]; exact h.get i x hx
  · rw [if_neg hi] at hx; rw [if_neg (by omega), l1]; exact k.get _ x hx

theorem Rs.take {xs : List AV} {vs : List Value} (h : Rs ι w L xs vs) (n : Nat) : Rs ι w L (xs.take n) (vs.take n) := by
  refine Rs.of_get (by simp [h.length]) fun i x hx => ?_
  rw [List.getElem?_take] at hx ⊢
  split at hx
  · rename_i hi; rw [if_pos hi]; exact h.get i x hx
  · cases hx

theorem Rs.drop {xs : List AV} {vs : List Value} (h : Rs ι w L xs vs) (n : Nat) : Rs ι w L (xs.drop n) (vs.drop n) := by
  refine Rs.of_get (by simp [h.length]) fun i x hx => ?_
  rw [List.getElem?_drop] at hx ⊢
  exact h.get _ x hx

theorem Rs.set {xs : List AV} {vs : List Value} (h : Rs ι w L xs vs) (n : Nat) {x : AV} {v : Value} (hx : R ι w L x v) : Rs ι w L (xs.set n x) (vs.set n v) := by
  refine Rs.of_get (by simp [h.length]) fun i y hy => ?_
  rw [List.getElem?_set] at hy ⊢
  split at hy
  · rename_i hni
    subst hni
    split at hy
    · rename_i hlt
      simp at hy; subst hy
      exact ⟨v, by simp [h.length, hlt], hx⟩
    · cases hy
  · rename_i hni; rw [if_neg hni]; exact h.get i y hy

theorem Rs.getD {xs : List AV} {vs : List Value} (h : Rs ι w L xs vs) (i : Nat) : R ι w L (xs[i]?.getD undefV) (vs[i]?.getD undef) := by
  cases hx : xs[i]? with
  | some x => obtain ⟨v, h1, h2⟩ := h.get i x hx; simpa [h1] using h2
  | none =>
    have : vs[i]? = none := by
      rw [List.getElem?_eq_none_iff] at hx ⊢
      rw [h.length]; exact hx
    rw [this]
    simp only [Option.getD_none, undefV, R]
    exact ⟨#[], rfl, by simp [Rs]⟩

theorem RAt.get {c : Array Value} : ∀ {xs : List AV} {o : Nat} (_ : RAt ι w L c o xs) (i : Nat) (x : AV), xs[i]? = some x → ∃ v, c[o + i]? = some v ∧ R ι w L x v
  | [], _, _, i, x, hx => by simp at hx
  | a :: xs, o, h, i, x, hx => by
    simp only [RAt] at h
    obtain ⟨⟨y, h1, h2⟩, h3⟩ := h
    cases i with
    | zero => simp at hx; subst hx; exact ⟨y, by simpa using h1, h2⟩
    | succ i =>
      simp at hx
      obtain ⟨v, g1, g2⟩ := RAt.get h3 i x hx
      exact ⟨v, by rw [← g1]; congr 1; omega, g2⟩

theorem RAt.of_get {c : Array Value} : ∀ {xs : List AV} {o : Nat}, (∀ (i : Nat) (x : AV), xs[i]? = some x → ∃ v, c[o + i]? = some v ∧ R ι w L x v) → RAt ι w L c o xs
  | [], _, _ => by simp [RAt]
  | a :: xs, o, h => by
    simp only [RAt]
    refine ⟨by simpa using h 0 a (by simp), RAt.of_get fun i x hx => ?_⟩
    obtain ⟨v, h1, h2⟩ := h (i + 1) x (by simpa using hx)
    exact ⟨v, by rw [← h1]; congr 1; omega, h2⟩

theorem RAt.drop {c : Array Value} {xs : List AV} {o : Nat} (h : RAt ι w L c o xs) (n : Nat) : RAt ι w L c (o + n) (xs.drop n) :=
  RAt.of_get fun i x hx => by
    rw [List.getElem?_drop] at hx
    rw [show o + n + i = o + (n + i) from by omega]
    exact h.get _ x hx

theorem RAt.take {c : Array Value} {xs : List AV} {o : Nat} (h : RAt ι w L c o xs) (n : Nat) : RAt ι w L c o (xs.take n) :=
  RAt.of_get fun i x hx => by
    rw [List.getElem?_take] at hx
    split at hx
    · exact h.get _ x hx
    · cases hx

theorem RAt.size {c : Array Value} {xs : List AV} {o : Nat} (h : RAt ι w L c o xs) (hne : xs ≠ []) : o + xs.length ≤ c.size := by
  have hl : 0 < xs.length := List.length_pos_iff.2 hne
  obtain ⟨v, h1, _⟩ := h.get (xs.length - 1) _ (List.getElem?_eq_getElem (by omega))
  have := (Array.getElem?_eq_some_iff.1 h1).1
  omega

/-- a list of cells as a list of values -/
theorem RAt.list {c : Array Value} {xs : List AV} {o : Nat} (h : RAt ι w L c o xs) : Rs ι w L xs (c.extract o (o + xs.length)).toList := by
  by_cases hne : xs = []
  · subst hne; simp [Rs]
  have hs := h.size hne
  refine Rs.of_get (by simp; omega) fun i x hx => ?_
  obtain ⟨v, h1, h2⟩ := h.get i x hx
  have hi : i < xs.length := (List.getElem?_eq_some_iff.1 hx).1
  refine ⟨v, ?_, h2⟩
  rw [Array.getElem?_toList, Array.getElem?_extract]
  rw [if_pos (by omega)]
  exact h1

theorem Rs.at {c : Array Value} {xs : List AV} {vs : List Value} (h : Rs ι w L xs vs) {o : Nat} (hc : ∀ (i : Nat) (v : Value), vs[i]? = some v → c[o + i]? = some v) : RAt ι w L c o xs :=
  RAt.of_get fun i x hx => let ⟨v, h1, h2⟩ := h.get i x hx; ⟨v, hc i v h1, h2⟩
end
end Dv

namespace Dv
open Go Go.RowKit
set_option linter.unusedSimpArgs false
set_option linter.unusedVariables false

/-! ### the environment speaks of the program -/
structure TyOk (E : Env) (P : Program) (t : Nat) (i : TyI) : Prop where
  und : P.underlying t = some i.und
  agg : i.isAgg = (match i.und with | .struct _ | .array .. => true | _ => false)
  info : ∃ ti, P.info? t = some ti ∧ ti.size = i.size ∧ ti.bytes = i.bytes ∧
    (∀ cs, i.zero = some cs → ∃ z, ti.zero = some z ∧ mapO (absN 19) z.cells.toList = some cs ∧ cs.length = i.size ∧
      (i.isAgg = true → ∃ a, z = .agg a) ∧ (i.isAgg = false → z.cells = #[z]))
  one : i.isAgg = false → i.size = 1
  eq : i.eqOk = true → P.stoodInHeld t = false ∧ P.eqGuardType P.depth t = false

structure Valid (E : Env) (P : Program) : Prop where
  ty : ∀ t i, E.ty t = some i → TyOk E P t i
  fn : ∀ f fi, E.fn f = some fi → ∃ fn, P.funcs[f]? = some fn ∧ fn.body = some fi.code ∧ fn.ntmps = fi.ntmps ∧ fn.results.toList = fi.results ∧
    fn.name ≠ "runtime.NumGoroutine" ∧ codeOk E fi.code = true
  mixed : P.follows .mixedOrders = true

theorem run_underlyingV {E : Env} {P : Program} (V : Valid E P) {t : Nat} {i : TyI} (h : E.ty t = some i) (w : World) : (underlying t).run P w = .ok i.und w :=
  run_underlying (V.ty t i h).und w

theorem run_sizeOfV {E : Env} {P : Program} (V : Valid E P) {t : Nat} {i : TyI} (h : E.ty t = some i) (w : World) : (Go.sizeOf t).run P w = .ok i.size w := by
  obtain ⟨ti, h1, h2, _⟩ := (V.ty t i h).info
  simp [Go.sizeOf, typeInfo, h1, h2]

theorem run_isAggV {E : Env} {P : Program} (V : Valid E P) {t : Nat} {i : TyI} (h : E.ty t = some i) (w : World) : (isAgg t).run P w = .ok i.isAgg w := by
  have hu := run_underlyingV V h w
  have ha := (V.ty t i h).agg
  unfold isAgg
  simp only [Sem.run_bind, hu, Result.andThen_ok, ha]
  cases i.und <;> rfl

/-! ### constants -/
mutual
theorem absN_R {ι : Inj} {w : World} {L : Nat → Prop} : ∀ (n : Nat) (v : Value) (av : AV), absN n v = some av → R ι w L av v
  | 0, _, _, h => by simp [absN] at h
  | n + 1, v, av, h => by
    unfold absN at h
    split at h
    case h_1 => cases h; simp [R]
    case h_2 => cases h; simp [R]
    case h_3 s => cases h; simp [R]
    case h_4 => cases h; simp [R]
    case h_5 => cases h; simp [R]
    case h_6 => cases h; simp [R]
    case h_7 => cases h; simp [R]
    case h_8 => cases h; simp [R]
    case h_9 cs =>
      rw [Option.map_eq_some_iff] at h
      obtain ⟨xs, h1, rfl⟩ := h
      simp only [R]
      exact ⟨cs, rfl, absL_Rs n cs.toList xs h1⟩
    case h_10 cs =>
      rw [Option.map_eq_some_iff] at h
      obtain ⟨xs, h1, rfl⟩ := h
      simp only [R]
      exact ⟨cs, rfl, absL_Rs n cs.toList xs h1⟩
    case h_11 t v =>
      rw [Option.map_eq_some_iff] at h
      obtain ⟨x, h1, rfl⟩ := h
      simp only [R]
      exact ⟨v, rfl, absN_R n v x h1⟩
    case h_12 => cases h
theorem absL_Rs {ι : Inj} {w : World} {L : Nat → Prop} : ∀ (n : Nat) (vs : List Value) (xs : List AV), mapO (absN n) vs = some xs → Rs ι w L xs vs
  | _, [], _, h => by simp [mapO] at h; subst h; simp [Rs]
  | n, v :: vs, xs, h => by
    unfold mapO at h
    cases h1 : absN n v with
    | none => simp [h1] at h
    | some x =>
      simp only [h1] at h
      cases h2 : mapO (absN n) vs with
      | none => simp [h2] at h
      | some ys =>
        simp only [h2, Option.some.injEq] at h
        subst h
        simp only [Rs]
        exact ⟨v, vs, rfl, absN_R n v x h1, absL_Rs n vs ys h2⟩
end

theorem oneA_cell {ι : Inj} {w : World} {L : Nat → Prop} {x : AV} {v : Value} (h : R ι w L x v) (ho : oneA x = true) : v.oneCell' = true := by
  cases x <;> simp only [oneA, Bool.false_eq_true] at ho <;> simp only [R] at h
  case bool => subst h; rfl
  case int => subst h; rfl
  case str => subst h; rfl
  case nilptr => subst h; rfl
  case hptr => obtain ⟨_, _, _, rfl⟩ := h; rfl
  case vptr => obtain ⟨_, _, _, _, _, rfl, _⟩ := h; rfl
  case gptr => subst h; rfl
  case nilslice => subst h; rfl
  case eslice => obtain ⟨_, _, rfl⟩ := h; rfl
  case hslice => obtain ⟨_, _, _, _, _, _, _, rfl, _⟩ := h; rfl
  case vslice => obtain ⟨_, _, _, _, _, _, rfl, _⟩ := h; rfl
  case nilmap => subst h; rfl
  case hmap => obtain ⟨_, _, _, rfl⟩ := h; rfl
  case vmap => obtain ⟨_, _, _, rfl, _⟩ := h; rfl
  case nilfunc => subst h; rfl
  case func => obtain ⟨_, _, rfl, _⟩ := h; rfl
  case nilIface => subst h; rfl
  case iface => obtain ⟨_, rfl, _⟩ := h; rfl
  case yield => obtain ⟨_, _, _, rfl⟩ := h; rfl

/-- the cells of a value -/
theorem R.cells {ι : Inj} {w : World} {L : Nat → Prop} {x : AV} {v : Value} (h : R ι w L x v) : Rs ι w L x.cells v.cells.toList := by
  cases x
  case agg cs => simp only [R] at h; obtain ⟨vs, rfl, h2⟩ := h; exact h2
  all_goals
    have h0 := h
    simp only [R] at h
    simp only [AV.cells, Rs]
    refine ⟨v, [], ?_, h0, rfl⟩
  case bool => subst h; rfl
  case int => subst h; rfl
  case str => subst h; rfl
  case nilptr => subst h; rfl
  case hptr => obtain ⟨_, _, _, rfl⟩ := h; rfl
  case vptr => obtain ⟨_, _, _, _, _, rfl, _⟩ := h; rfl
  case gptr => subst h; rfl
  case nilslice => subst h; rfl
  case eslice => obtain ⟨_, _, rfl⟩ := h; rfl
  case hslice => obtain ⟨_, _, _, _, _, _, _, rfl, _⟩ := h; rfl
  case vslice => obtain ⟨_, _, _, _, _, _, rfl, _⟩ := h; rfl
  case nilmap => subst h; rfl
  case hmap => obtain ⟨_, _, _, rfl⟩ := h; rfl
  case vmap => obtain ⟨_, _, _, rfl, _⟩ := h; rfl
  case nilfunc => subst h; rfl
  case func => obtain ⟨_, _, rfl, _⟩ := h; rfl
  case nilIface => subst h; rfl
  case iface => obtain ⟨_, rfl, _⟩ := h; rfl
  case tuple => obtain ⟨_, rfl, _⟩ := h; rfl
  case yield => obtain ⟨_, _, _, rfl⟩ := h; rfl

/-! ### the call's own heap -/
def Blk.st : Blk → BSt
  | .cells st _ => st
  | .map st _ _ => st
  | .siter .. => .live
  | .loop .. => .live

/-- the blocks of the world that may still be written -/
def Live (Lo : Nat → Prop) (ι : Inj) (H : Hp) (c : Nat) : Prop := Lo c ∨ ∃ b blk co, H[b]? = some blk ∧ blk.st = .live ∧ ι b = some (c, co)

/-- a map's stamps: each below its clock, none twice -/
def WfM (es : Array MapEntry) (clock : Nat) : Prop := (∀ x ∈ es.toList, x.born < clock) ∧ (es.toList.map (·.born)).Nodup

def ObjR (ι : Inj) (w : World) (L : Nat → Prop) (co : Nat) : Blk → Obj → Prop
  | .cells st cs, o => ∃ c e f, o = .cells c e f ∧ RAt ι w L c co cs ∧ (st = .live → ∀ k, k < c.size → ¬ (f.1 ≤ k ∧ k < f.2))
  | .map st ks vs, o => ∃ es clock, o = .map es clock ∧ Rs ι w L ks (es.toList.map (·.key)) ∧ Rs ι w L vs (es.toList.map (·.val)) ∧ (st = .live → WfM es clock)
  | .siter s pos, o => co = 0 ∧ o = .stringIter ⟨s.toArray⟩ pos
  | .loop st pend ts ps as bd, o => ∃ l : Loop, o = .loop l ∧ l.state = st ∧ l.pending = pend ∧ Rs ι w L ts l.tmps.toList ∧ l.params.toList = ps ∧ l.assign = as ∧ l.body = bd

theorem ObjR.ext {w w' : World} {L L' : Nat → Prop} (he : Ext w L w' L') {ι ι' : Inj} (hi : ι.le ι') {co : Nat} {blk : Blk} {o : Obj} (h : ObjR ι w L co blk o) : ObjR ι' w' L' co blk o := by
  cases blk <;> simp only [ObjR] at h ⊢
  case cells => obtain ⟨c, e, f, h1, h2, h3⟩ := h; exact ⟨c, e, f, h1, RAt.ext he _ _ _ _ _ hi h2, h3⟩
  case map => obtain ⟨es, k, h1, h2, h3, h4⟩ := h; exact ⟨es, k, h1, Rs.ext he _ _ _ _ hi h2, Rs.ext he _ _ _ _ hi h3, h4⟩
  case siter => exact h
  case loop => obtain ⟨l, h1, h2, h3, h4, h5⟩ := h; exact ⟨l, h1, h2, h3, Rs.ext he _ _ _ _ hi h4, h5⟩

/-- the codes that a loop's record holds are fit -/
def Blk.fine (E : Env) : Blk → Prop
  | .loop _ p _ _ as bd => codeOk E as = true ∧ codeOk E bd = true ∧ flat as = true ∧ flat bd = true ∧ ∀ c, p = some c → codeOk E c = true
  | _ => True

structure Sim (E : Env) (Lo : Nat → Prop) (w0 : World) (ι : Inj) (H : Hp) (w : World) : Prop where
  below : Below w0.heap.size w0 w
  lo : ∀ c, Lo c → c < w0.heap.size
  dom : ∀ b p, ι b = some p → b < H.length ∧ p.1 < w.heap.size
  obj : ∀ (b : Nat) (blk : Blk), H[b]? = some blk → blk.st ≠ .dead → ∃ cb co o, ι b = some (cb, co) ∧ w.heap[cb]? = some o ∧ ObjR ι w (Live Lo ι H) co blk o ∧
    (blk.st = .live → w0.heap.size ≤ cb) ∧ (blk.st = .ro → ¬ Live Lo ι H cb)
  inj : ∀ (b b' : Nat) (blk blk' : Blk) (c co co' : Nat), H[b]? = some blk → blk.st = .live → H[b']? = some blk' → blk'.st = .live → ι b = some (c, co) → ι b' = some (c, co') → b = b'
  glob : ∀ g cs, E.glob g = some cs → ∃ c e f, w.heap[g]? = some (.cells c e f) ∧ ¬ Live Lo ι H g ∧ RAt noInj w (Live Lo ι H) c 0 cs
  fine : ∀ (b : Nat) (blk : Blk), H[b]? = some blk → blk.st = .live → blk.fine E
  res : ∀ b p, ι b = some p → H[b]? ≠ some deadB

section
variable {E : Env} {Lo : Nat → Prop} {w0 : World} {ι : Inj} {H : Hp} {w : World}

/-- a number of a block that is still free -/
def Free (ι : Inj) (H : Hp) (nid : Nat) : Prop := ι nid = none ∧ (nid = H.length ∨ H[nid]? = some deadB)

def Inj.put (ι : Inj) (b : Nat) (p : Nat × Nat) : Inj := fun x => if x = b then some p else ι x

theorem Inj.le_put {b : Nat} {p : Nat × Nat} (h : ι b = none) : ι.le (ι.put b p) := fun x q hx => by
  unfold Inj.put
  split
  · rename_i he; subst he; rw [h] at hx; cases hx
  · exact hx

theorem free_len (h : Sim E Lo w0 ι H w) : Free ι H H.length :=
  ⟨by cases hi : ι H.length with
      | none => rfl
      | some p => exact absurd (h.dom _ _ hi).1 (Nat.lt_irrefl _), .inl rfl⟩

theorem free_res (h : Sim E Lo w0 ι H w) {nid : Nat} (hn : H[nid]? = some deadB) : Free ι H nid :=
  ⟨by cases hi : ι nid with
      | none => rfl
      | some p => exact absurd hn (h.res _ _ hi), .inr hn⟩

theorem putB_get {nid : Nat} {blk : Blk} (hf : nid ≤ H.length) (b : Nat) : (putB H nid blk)[b]? = if b = nid then some blk else H[b]? := by
  unfold putB
  split
  · rename_i h
    rw [List.getElem?_set]
    by_cases hb : b = nid
    · subst hb; simp [h]
    · rw [if_neg (fun e => hb e.symm), if_neg hb]
  · rename_i h
    have : nid = H.length := by omega
    subst this
    by_cases hb : b = H.length
    · subst hb; simp
    · rw [if_neg hb, List.getElem?_append]
      split
      · rfl
      · rename_i h2; rw [List.getElem?_eq_none (by simp; omega), List.getElem?_eq_none (by omega)]

theorem putB_len {nid : Nat} {blk : Blk} (hf : nid ≤ H.length) : H.length ≤ (putB H nid blk).length ∧ nid < (putB H nid blk).length := by
  unfold putB
  split
  · simp; omega
  · simp; omega

theorem Free.le {nid : Nat} (h : Free ι H nid) : nid ≤ H.length := by
  rcases h.2 with rfl | h2
  · exact Nat.le_refl _
  · exact Nat.le_of_lt (List.getElem?_eq_some_iff.1 h2).1

/-- the live blocks behind a new block -/
theorem live_new {nid cb co : Nat} {blk : Blk} (hf : Free ι H nid) (hl : blk.st = .live) (c : Nat) :
    Live Lo (ι.put nid (cb, co)) (putB H nid blk) c ↔ Live Lo ι H c ∨ c = cb := by
  unfold Live
  constructor
  · rintro (h | ⟨b, bk, x, h1, h2, h3⟩)
    · exact .inl (.inl h)
    · rw [putB_get hf.le] at h1
      unfold Inj.put at h3
      by_cases hb : b = nid
      · rw [if_pos hb] at h3; cases h3; exact .inr rfl
      · rw [if_neg hb] at h1 h3; exact .inl (.inr ⟨b, bk, x, h1, h2, h3⟩)
  · rintro ((h | ⟨b, bk, x, h1, h2, h3⟩) | h)
    · exact .inl h
    · have hb : b ≠ nid := fun e => by subst e; rw [hf.1] at h3; cases h3
      exact .inr ⟨b, bk, x, by rw [putB_get hf.le, if_neg hb]; exact h1, h2, by unfold Inj.put; rw [if_neg hb]; exact h3⟩
    · subst h
      exact .inr ⟨nid, blk, co, by rw [putB_get hf.le, if_pos rfl], hl, by unfold Inj.put; rw [if_pos rfl]⟩

theorem ext_alloc (h : Sim E Lo w0 ι H w) {nid : Nat} {blk : Blk} (hf : Free ι H nid) (hl : blk.st = .live) (o : Obj) {w1 : World} (hw : w1.heap = w.heap) :
    Ext w (Live Lo ι H) (w1.alloc o) (Live Lo (ι.put nid (w.heap.size, 0)) (putB H nid blk)) := by
  refine ⟨by simp [World.alloc, hw], fun c hc hnl => ⟨?_, fun hl' => ?_⟩, fun c cs e f hcs => ⟨cs, f, ?_, rfl⟩⟩
  · simp only [World.alloc, hw]; rw [Array.getElem?_push, if_neg (by omega)]
  · rcases (live_new (co := 0) hf hl c).1 hl' with h' | h'
    · exact hnl h'
    · omega
  · have := lt_size_of_get hcs
    simp only [World.alloc, hw]; rw [Array.getElem?_push, if_neg (by omega)]; exact hcs

/-- a new block of the call's own -/
theorem Sim.alloc (h : Sim E Lo w0 ι H w) {nid : Nat} {blk : Blk} (hf : Free ι H nid) (hl : blk.st = .live) {o : Obj} {w1 : World} (hw : w1.heap = w.heap)
    (hos : w1.os = w.os) (htp : w1.tape = w.tape) (hout : w1.output = w.output)
    (ho : ObjR (ι.put nid (w.heap.size, 0)) (w1.alloc o) (Live Lo (ι.put nid (w.heap.size, 0)) (putB H nid blk)) 0 blk o) (hfine : blk.fine E := by trivial) :
    Sim E Lo w0 (ι.put nid (w.heap.size, 0)) (putB H nid blk) (w1.alloc o) := by
  have hx := ext_alloc h hf hl o hw
  have hle := Inj.le_put (p := (w.heap.size, 0)) hf.1
  have hb0 := h.below.size
  refine ⟨?_, h.lo, ?_, ?_, ?_, ?_, ?_, ?_⟩
  · refine h.below.trans ⟨hos, htp, hout, by simp [World.alloc, hw], fun k hk => ?_⟩
    show (w1.heap.push o)[k]? = _
    rw [hw, Array.getElem?_push, if_neg (by omega)]
  · intro b p hp
    unfold Inj.put at hp
    have hpl := putB_len (blk := blk) hf.le
    split at hp
    · rename_i e; subst e; cases hp; exact ⟨hpl.2, by simp [World.alloc, hw]⟩
    · have := h.dom _ _ hp; exact ⟨by omega, by simp [World.alloc, hw]; omega⟩
  · intro b bk hb hd
    rw [putB_get hf.le] at hb
    by_cases e : b = nid
    · rw [if_pos e] at hb; cases hb; subst e
      refine ⟨w.heap.size, 0, o, by simp [Inj.put], ?_, ho, fun _ => hb0, fun hr => by rw [hl] at hr; cases hr⟩
      simp [World.alloc, hw]
    · rw [if_neg e] at hb
      obtain ⟨cb, co, ob, h1, h2, h3, h4, h5⟩ := h.obj b bk hb hd
      have hlt := lt_size_of_get h2
      refine ⟨cb, co, ob, hle _ _ h1, ?_, h3.ext hx hle, h4, fun hr hl' => ?_⟩
      · show (w1.heap.push o)[cb]? = _
        rw [hw, Array.getElem?_push, if_neg (by omega)]; exact h2
      · rcases (live_new (co := 0) hf hl cb).1 hl' with h' | h'
        · exact h5 hr h'
        · omega
  · intro b b' bk bk' c co co' hb hs hb' hs' hi hi'
    rw [putB_get hf.le] at hb hb'
    unfold Inj.put at hi hi'
    by_cases e : b = nid
    · by_cases e' : b' = nid
      · rw [e, e']
      · rw [if_pos e] at hi; rw [if_neg e'] at hi'
        cases hi
        have := (h.dom _ _ hi').2
        omega
    · by_cases e' : b' = nid
      · rw [if_pos e'] at hi'; rw [if_neg e] at hi
        cases hi'
        have := (h.dom _ _ hi).2
        omega
      · rw [if_neg e] at hb hi; rw [if_neg e'] at hb' hi'
        exact h.inj b b' bk bk' c co co' hb hs hb' hs' hi hi'
  · intro g cs hg
    obtain ⟨c, e, f, h1, h2, h3⟩ := h.glob g cs hg
    have := hx.keep h1 h2
    exact ⟨c, e, f, this.1, this.2, RAt.ext hx _ _ _ _ _ (Inj.le_refl _) h3⟩
  · intro b bk hb hs
    rw [putB_get hf.le] at hb
    split at hb
    · cases hb; exact hfine
    · exact h.fine b bk hb hs
  · intro b p hp q
    rw [putB_get hf.le] at q
    unfold Inj.put at hp
    by_cases e : b = nid
    · rw [if_pos e] at q; cases q; cases hl
    · rw [if_neg e] at q hp; exact h.res b p hp q

/-- only one block of the world is another -/
structure Only (w w' : World) (cb : Nat) (o' : Obj) : Prop where
  os : w'.os = w.os
  tape : w'.tape = w.tape
  output : w'.output = w.output
  size : w'.heap.size = w.heap.size
  here : w'.heap[cb]? = some o'
  there : ∀ c, c ≠ cb → w'.heap[c]? = w.heap[c]?

def SameShape (o o' : Obj) : Prop := ∀ cs e f, o = .cells cs e f → ∃ cs' f', o' = Obj.cells cs' e f' ∧ cs'.size = cs.size

theorem Only.below {w' : World} {cb : Nat} {o' : Obj} (h : Only w w' cb o') {B : Nat} (hb : B ≤ cb) : Below B w w' :=
  ⟨h.os, h.tape, h.output, Nat.le_of_eq h.size.symm, fun k hk => h.there k (by omega)⟩

theorem Only.ext {w' : World} {cb : Nat} {o o' : Obj} (h : Only w w' cb o') {L L' : Nat → Prop} (ho : w.heap[cb]? = some o) (hs : SameShape o o') (hl : L cb) (hL : ∀ c, L' c → L c) :
    Ext w L w' L' :=
  ⟨Nat.le_of_eq h.size.symm, fun c hc hn => ⟨h.there c (fun e => hn (e ▸ hl)), fun h' => hn (hL c h')⟩, fun c cs e f hcs => by
    by_cases hc : c = cb
    · subst hc
      rw [ho] at hcs; cases hcs
      obtain ⟨cs', f', h1, h2⟩ := hs cs e f rfl
      exact ⟨cs', f', by rw [h.here, h1], h2⟩
    · exact ⟨cs, f, by rw [h.there c hc]; exact hcs, rfl⟩⟩

theorem live_set {b : Nat} {blk blk' : Blk} (hb : H[b]? = some blk) (hs : blk'.st = blk.st) (c : Nat) : Live Lo ι (H.set b blk') c ↔ Live Lo ι H c := by
  have hlt := (List.getElem?_eq_some_iff.1 hb).1
  unfold Live
  constructor
  · rintro (h | ⟨x, bk, co, h1, h2, h3⟩)
    · exact .inl h
    · rw [List.getElem?_set] at h1
      by_cases e : b = x
      · subst e
        rw [if_pos rfl, if_pos hlt] at h1; cases h1
        exact .inr ⟨b, blk, co, hb, hs ▸ h2, h3⟩
      · rw [if_neg e] at h1; exact .inr ⟨x, bk, co, h1, h2, h3⟩
  · rintro (h | ⟨x, bk, co, h1, h2, h3⟩)
    · exact .inl h
    · by_cases e : b = x
      · subst e
        rw [hb] at h1; cases h1
        exact .inr ⟨b, blk', co, by rw [List.getElem?_set, if_pos rfl, if_pos hlt], by rw [hs]; exact h2, h3⟩
      · exact .inr ⟨x, bk, co, by rw [List.getElem?_set, if_neg e]; exact h1, h2, h3⟩

theorem Live.congr {Lo : Nat → Prop} {ι ι' : Inj} {H H' : Hp} (h : ∀ c, Live Lo ι H c ↔ Live Lo ι' H' c) : Live Lo ι H = Live Lo ι' H' := funext fun c => propext (h c)

/-- a block that is being written is another one -/
theorem Sim.update (h : Sim E Lo w0 ι H w) {b cb co : Nat} {blk blk' : Blk} {o o' : Obj} {w' : World} (hb : H[b]? = some blk) (hl : blk.st = .live) (hl' : blk'.st = .live)
    (hi : ι b = some (cb, co)) (ho : w.heap[cb]? = some o) (hsh : SameShape o o') (hw : Only w w' cb o')
    (hr : ObjR ι w' (Live Lo ι H) co blk' o') (hfine : blk'.fine E := by trivial) : Sim E Lo w0 ι (H.set b blk') w' ∧ Ext w (Live Lo ι H) w' (Live Lo ι (H.set b blk')) := by
  have hlt := (List.getElem?_eq_some_iff.1 hb).1
  have hL : Live Lo ι (H.set b blk') = Live Lo ι H := Live.congr (live_set hb (hl'.trans hl.symm))
  have hlive : Live Lo ι H cb := .inr ⟨b, blk, co, hb, hl, hi⟩
  have hx : Ext w (Live Lo ι H) w' (Live Lo ι H) := hw.ext ho hsh hlive (fun _ h => h)
  obtain ⟨cb', co', o1, g1, _, _, g4, _⟩ := h.obj b blk hb (by rw [hl]; simp)
  rw [hi] at g1; cases g1
  refine ⟨⟨h.below.trans (hw.below (g4 hl)), h.lo, ?_, ?_, ?_, ?_, ?_, ?_⟩, by rw [hL]; exact hx⟩
  · intro x p hp
    have := h.dom x p hp
    exact ⟨by simpa using this.1, by rw [hw.size]; exact this.2⟩
  · intro x bk hxb hd
    rw [hL]
    rw [List.getElem?_set] at hxb
    by_cases e : b = x
    · subst e
      rw [if_pos rfl, if_pos hlt] at hxb; cases hxb
      exact ⟨cb, co, o', hi, hw.here, hr, fun _ => g4 hl, fun hro => by rw [hl'] at hro; cases hro⟩
    · rw [if_neg e] at hxb
      obtain ⟨c1, k1, ob, h1, h2, h3, h4, h5⟩ := h.obj x bk hxb hd
      have hne : c1 ≠ cb := by
        intro e'
        cases hst : bk.st with
        | dead => exact hd hst
        | ro => exact h5 hst (e' ▸ hlive)
        | live => exact e (h.inj b x blk bk cb co k1 hb hl hxb hst hi (by rw [h1, e']))
      exact ⟨c1, k1, ob, h1, by rw [hw.there c1 hne]; exact h2, h3.ext hx (Inj.le_refl _), h4, h5⟩
  · intro x y bk bk' c k k' hxb hs hyb hs' hxi hyi
    have conv : ∀ (z : Nat) (bz : Blk), (H.set b blk')[z]? = some bz → bz.st = .live → ∃ bz', H[z]? = some bz' ∧ bz'.st = .live := by
      intro z bz hz hzs
      rw [List.getElem?_set] at hz
      by_cases e : b = z
      · subst e; exact ⟨blk, hb, hl⟩
      · rw [if_neg e] at hz; exact ⟨bz, hz, hzs⟩
    obtain ⟨b1, q1, q2⟩ := conv x bk hxb hs
    obtain ⟨b2, q3, q4⟩ := conv y bk' hyb hs'
    exact h.inj x y b1 b2 c k k' q1 q2 q3 q4 hxi hyi
  · intro g cs hg
    rw [hL]
    obtain ⟨c, e, f, h1, h2, h3⟩ := h.glob g cs hg
    have := hx.keep h1 h2
    exact ⟨c, e, f, this.1, this.2, RAt.ext hx _ _ _ _ _ (Inj.le_refl _) h3⟩
  · intro x bk hxb hs
    rw [List.getElem?_set] at hxb
    by_cases e : b = x
    · subst e
      rw [if_pos rfl, if_pos hlt] at hxb; cases hxb
      exact hfine
    · rw [if_neg e] at hxb; exact h.fine x bk hxb hs
  · intro x p hp q
    rw [List.getElem?_set] at q
    by_cases e : b = x
    · subst e
      rw [if_pos rfl, if_pos hlt] at q; cases q; cases hl'
    · rw [if_neg e] at q; exact h.res x p hp q

/-- a draw -/
theorem Sim.drew (h : Sim E Lo w0 ι H w) {w' : World} (hh : w'.heap = w.heap) (hos : w'.os = w.os) (htp : w'.tape = w.tape) (hout : w'.output = w.output) :
    Sim E Lo w0 ι H w' ∧ Ext w (Live Lo ι H) w' (Live Lo ι H) := by
  have hx : Ext w (Live Lo ι H) w' (Live Lo ι H) := ⟨by rw [hh]; exact Nat.le_refl _, fun c _ hn => ⟨by rw [hh], hn⟩, fun c cs e f hc => ⟨cs, f, by rw [hh]; exact hc, rfl⟩⟩
  refine ⟨⟨h.below.trans ⟨hos, htp, hout, by rw [hh]; exact Nat.le_refl _, fun k _ => by rw [hh]⟩, h.lo, fun b p hp => by rw [hh]; exact h.dom b p hp, ?_, h.inj, ?_, h.fine, h.res⟩, hx⟩
  · intro b bk hb hd
    obtain ⟨c1, k1, ob, h1, h2, h3, h4, h5⟩ := h.obj b bk hb hd
    exact ⟨c1, k1, ob, h1, by rw [hh]; exact h2, h3.ext hx (Inj.le_refl _), h4, h5⟩
  · intro g cs hg
    obtain ⟨c, e, f, h1, h2, h3⟩ := h.glob g cs hg
    exact ⟨c, e, f, by rw [hh]; exact h1, h2, RAt.ext hx _ _ _ _ _ (Inj.le_refl _) h3⟩

/-- blocks are let go, or only read from now on: the same world -/
theorem Sim.weaken (h : Sim E Lo w0 ι H w) {H' : Hp} (hlen : H'.length = H.length) (hres : ∀ b : Nat, H'[b]? = some deadB → H[b]? = some deadB)
    (hb : ∀ (b : Nat) (blk' : Blk), H'[b]? = some blk' → blk'.st ≠ .dead → H[b]? = some blk' ∨ ∃ blk, H[b]? = some blk ∧ blk.st = .live ∧ blk'.st = .ro ∧ ∀ ι w L co o, ObjR ι w L co blk o → ObjR ι w L co blk' o) :
    Sim E Lo w0 ι H' w ∧ Ext w (Live Lo ι H) w (Live Lo ι H') := by
  have hL : ∀ c, Live Lo ι H' c → Live Lo ι H c := by
    rintro c (hc | ⟨b, bk, co, h1, h2, h3⟩)
    · exact .inl hc
    · rcases hb b bk h1 (by rw [h2]; simp) with h' | ⟨b0, _, _, h5, _⟩
      · exact .inr ⟨b, bk, co, h', h2, h3⟩
      · rw [h2] at h5; cases h5
  have hx : Ext w (Live Lo ι H) w (Live Lo ι H') := ⟨Nat.le_refl _, fun c _ hn => ⟨rfl, fun h' => hn (hL c h')⟩, fun c cs e f hc => ⟨cs, f, hc, rfl⟩⟩
  have livecase : ∀ (z : Nat) (bz : Blk), H'[z]? = some bz → bz.st = .live → H[z]? = some bz := by
    intro z bz hz hs
    rcases hb z bz hz (by rw [hs]; simp) with h' | ⟨_, _, _, h5, _⟩
    · exact h'
    · rw [hs] at h5; cases h5
  refine ⟨⟨h.below, h.lo, fun b p hp => by rw [hlen]; exact h.dom b p hp, ?_, ?_, ?_, fun b bk hb' hs => h.fine b bk (livecase b bk hb' hs) hs, fun b p hp q => h.res b p hp (hres b q)⟩, hx⟩
  · intro b bk hbk hd
    rcases hb b bk hbk hd with h' | ⟨b0, g1, g2, g3, g4⟩
    · obtain ⟨c1, k1, ob, h1, h2, h3, h4, h5⟩ := h.obj b bk h' hd
      exact ⟨c1, k1, ob, h1, h2, h3.ext hx (Inj.le_refl _), h4, fun hr hl => h5 hr (hL _ hl)⟩
    · obtain ⟨c1, k1, ob, h1, h2, h3, h4, h5⟩ := h.obj b b0 g1 (by rw [g2]; simp)
      refine ⟨c1, k1, ob, h1, h2, (g4 _ _ _ _ _ h3).ext hx (Inj.le_refl _), (fun hl => by rw [g3] at hl; cases hl), fun _ hl => ?_⟩
      rcases hl with hl | ⟨b', bk', co', q1, q2, q3⟩
      · have := h.lo c1 hl
        have := h4 g2
        omega
      · have q4 := livecase b' bk' q1 q2
        have := h.inj b b' b0 bk' c1 k1 co' g1 g2 q4 q2 h1 q3
        subst this
        rw [q1] at hbk; cases hbk
        rw [q2] at g3; cases g3
  · intro x y bk bk' c k k' hxb hs hyb hs' hxi hyi
    exact h.inj x y bk bk' c k k' (livecase x bk hxb hs) hs (livecase y bk' hyb hs') hs' hxi hyi
  · intro g cs hg
    obtain ⟨c, e, f, h1, h2, h3⟩ := h.glob g cs hg
    exact ⟨c, e, f, h1, fun hl => h2 (hL _ hl), RAt.ext hx _ _ _ _ _ (Inj.le_refl _) h3⟩

/-- a block is let go -/
theorem Sim.kill (h : Sim E Lo w0 ι H w) {b : Nat} (cs : List AV) (hcs : cs ≠ [undefV]) : Sim E Lo w0 ι (H.set b (.cells .dead cs)) w ∧ Ext w (Live Lo ι H) w (Live Lo ι (H.set b (.cells .dead cs))) :=
  h.weaken (by simp) (fun x hx => by
    rw [List.getElem?_set] at hx
    by_cases e : b = x
    · rw [if_pos e] at hx
      split at hx
      · exact absurd (by simpa [deadB] using hx) hcs
      · cases hx
    · rw [if_neg e] at hx; exact hx) fun x bk hx hd => by
    rw [List.getElem?_set] at hx
    by_cases e : b = x
    · rw [if_pos e] at hx
      split at hx
      · cases hx; exact absurd rfl hd
      · cases hx
    · rw [if_neg e] at hx; exact .inl hx

/-- a slice has grown within its block: its block has a new number -/
theorem Sim.regrow (h : Sim E Lo w0 ι H w) {b nid cb co co' : Nat} {blk blk' : Blk} {cs0 : List AV} {o o' : Obj} {w' : World} (hb : H[b]? = some blk) (hl : blk.st = .live) (hl' : blk'.st = .live)
    (hf : Free ι H nid) (hi : ι b = some (cb, co)) (ho : w.heap[cb]? = some o) (hsh : SameShape o o') (hw : Only w w' cb o')
    (hr : ObjR (ι.put nid (cb, co')) w' (Live Lo ι H) co' blk' o') (hcs : cs0 ≠ [undefV]) (hfine : blk'.fine E := by trivial) :
    Sim E Lo w0 (ι.put nid (cb, co')) (putB (H.set b (.cells .dead cs0)) nid blk') w' ∧
      Ext w (Live Lo ι H) w' (Live Lo (ι.put nid (cb, co')) (putB (H.set b (.cells .dead cs0)) nid blk')) := by
  have hlt := (List.getElem?_eq_some_iff.1 hb).1
  have hbn : b ≠ nid := fun e => by subst e; rw [hf.1] at hi; cases hi
  have hle' : nid ≤ (H.set b (.cells .dead cs0)).length := by simpa using hf.le
  have get : ∀ x, (putB (H.set b (.cells .dead cs0)) nid blk')[x]? = if x = nid then some blk' else if x = b then some (.cells .dead cs0) else H[x]? := by
    intro x
    rw [putB_get hle' x, List.getElem?_set]
    by_cases e : x = nid
    · rw [if_pos e, if_pos e]
    · rw [if_neg e, if_neg e]
      by_cases e2 : b = x
      · subst e2; simp [hlt]
      · rw [if_neg e2, if_neg (fun q => e2 q.symm)]
  have hlive : Live Lo ι H cb := .inr ⟨b, blk, co, hb, hl, hi⟩
  have hL : Live Lo (ι.put nid (cb, co')) (putB (H.set b (.cells .dead cs0)) nid blk') = Live Lo ι H := by
    refine Live.congr fun c => ⟨?_, ?_⟩
    · rintro (hc | ⟨x, bk, k, h1, h2, h3⟩)
      · exact .inl hc
      · rw [get] at h1
        unfold Inj.put at h3
        by_cases e : x = nid
        · rw [if_pos e] at h3; cases h3; exact hlive
        · rw [if_neg e] at h1 h3
          by_cases e2 : x = b
          · rw [if_pos e2] at h1; cases h1; cases h2
          · rw [if_neg e2] at h1; exact .inr ⟨x, bk, k, h1, h2, h3⟩
    · rintro (hc | ⟨x, bk, k, h1, h2, h3⟩)
      · exact .inl hc
      · by_cases e2 : x = b
        · subst e2
          rw [hi] at h3; cases h3
          exact .inr ⟨nid, blk', co', by rw [get, if_pos rfl], hl', by unfold Inj.put; rw [if_pos rfl]⟩
        · have e : x ≠ nid := fun e => by subst e; rw [hf.1] at h3; cases h3
          exact .inr ⟨x, bk, k, by rw [get, if_neg e, if_neg e2]; exact h1, h2, by unfold Inj.put; rw [if_neg e]; exact h3⟩
  have hx : Ext w (Live Lo ι H) w' (Live Lo ι H) := hw.ext ho hsh hlive (fun _ h => h)
  have hle := Inj.le_put (p := (cb, co')) hf.1
  obtain ⟨cb', co'', o1, g1, g2', _, g4, _⟩ := h.obj b blk hb (by rw [hl]; simp)
  rw [hi] at g1; cases g1
  rw [hL]
  refine ⟨⟨h.below.trans (hw.below (g4 hl)), h.lo, ?_, ?_, ?_, ?_, ?_, ?_⟩, hx⟩
  · intro x p hp
    have hpl := putB_len (blk := blk') hle'
    rw [List.length_set] at hpl
    unfold Inj.put at hp
    split at hp
    · rename_i e; subst e; cases hp; exact ⟨hpl.2, by rw [hw.size]; exact (h.dom b _ hi).2⟩
    · have := h.dom x p hp
      exact ⟨by omega, by rw [hw.size]; exact this.2⟩
  · intro x bk hxb hd
    rw [hL]
    rw [get] at hxb
    by_cases e : x = nid
    · subst e
      rw [if_pos rfl] at hxb; cases hxb
      exact ⟨cb, co', o', by simp [Inj.put], hw.here, hr, fun _ => g4 hl, fun hro => by rw [hl'] at hro; cases hro⟩
    · rw [if_neg e] at hxb
      by_cases e2 : x = b
      · rw [if_pos e2] at hxb; cases hxb; exact absurd rfl hd
      · rw [if_neg e2] at hxb
        obtain ⟨c1, k1, ob, h1, h2, h3, h4, h5⟩ := h.obj x bk hxb hd
        have hne : c1 ≠ cb := by
          intro e'
          cases hst : bk.st with
          | dead => exact hd hst
          | ro => exact h5 hst (e' ▸ hlive)
          | live => exact e2 (h.inj x b bk blk cb k1 co hxb hst hb hl (by rw [h1, e']) hi)
        exact ⟨c1, k1, ob, hle _ _ h1, by rw [hw.there c1 hne]; exact h2, h3.ext hx hle, h4, h5⟩
  · intro x y bk bk' c k k' hxb hs hyb hs' hxi hyi
    -- each of the two stands for a block that was live before
    have conv : ∀ (z : Nat) (bz : Blk) (kz : Nat), (putB (H.set b (.cells .dead cs0)) nid blk')[z]? = some bz → bz.st = .live → (ι.put nid (cb, co')) z = some (c, kz) →
        ∃ z' bz' kz', H[z']? = some bz' ∧ bz'.st = .live ∧ ι z' = some (c, kz') ∧ (z = nid ∧ z' = b ∨ z ≠ nid ∧ z ≠ b ∧ z' = z) := by
      intro z bz kz hz hzs hzi
      rw [get] at hz
      unfold Inj.put at hzi
      by_cases e : z = nid
      · rw [if_pos e] at hzi; cases hzi
        exact ⟨b, blk, co, hb, hl, hi, .inl ⟨e, rfl⟩⟩
      · rw [if_neg e] at hz hzi
        by_cases e2 : z = b
        · rw [if_pos e2] at hz; cases hz; cases hzs
        · rw [if_neg e2] at hz
          exact ⟨z, bz, kz, hz, hzs, hzi, .inr ⟨e, e2, rfl⟩⟩
    obtain ⟨x', b1, k1, q1, q2, q3, q4⟩ := conv x bk k hxb hs hxi
    obtain ⟨y', b2, k2, r1, r2, r3, r4⟩ := conv y bk' k' hyb hs' hyi
    have := h.inj x' y' b1 b2 c k1 k2 q1 q2 r1 r2 q3 r3
    rcases q4 with ⟨q4, q5⟩ | ⟨q4, q5, q6⟩ <;> rcases r4 with ⟨r4, r5⟩ | ⟨r4, r5, r6⟩
    · rw [q4, r4]
    · exact absurd (by rw [← r6, ← this, q5]) r5
    · exact absurd (by rw [← q6, this, r5]) q5
    · rw [← q6, ← r6, this]
  · intro g cs hg
    rw [hL]
    obtain ⟨c, e, f, h1, h2, h3⟩ := h.glob g cs hg
    have := hx.keep h1 h2
    exact ⟨c, e, f, this.1, this.2, RAt.ext hx _ _ _ _ _ (Inj.le_refl _) h3⟩
  · intro x bk hxb hs
    rw [get] at hxb
    split at hxb
    · cases hxb; exact hfine
    · split at hxb
      · cases hxb; cases hs
      · exact h.fine x bk hxb hs
  · intro x p hp q
    rw [get] at q
    unfold Inj.put at hp
    by_cases e : x = nid
    · rw [if_pos e] at q; cases q; cases hl'
    · rw [if_neg e] at q hp
      by_cases e2 : x = b
      · rw [if_pos e2] at q
        exact hcs (by simpa [deadB] using q)
      · rw [if_neg e2] at q; exact h.res x p hp q
end
end Dv

namespace Dv
open Go Go.RowKit
set_option linter.unusedSimpArgs false
set_option linter.unusedVariables false

section
variable {E : Env} {P : Program} (V : Valid E P) {ι : Inj} {w : World} {L : Nat → Prop}

/-- the environment's word on a type, as the program has it -/
theorem Valid.info' {E : Env} {P : Program} (V : Valid E P) {t : Nat} {i : TyI} (h : E.ty t = some i) : ∃ ti, P.info? t = some ti ∧ ti.size = i.size ∧ ti.bytes = i.bytes :=
  let ⟨ti, a, b, c, _⟩ := (V.ty t i h).info; ⟨ti, a, b, c⟩

include V in
theorem cellsOf_V {t : Nat} {i : TyI} (h : E.ty t = some i) : P.cellsOf t = i.size := by
  obtain ⟨ti, h1, h2, _⟩ := V.info' h
  simp [Program.cellsOf, h1, h2]

include V in
theorem part_run {t : Nat} {cs : List AV} {vs : Array Value} (hr : Rs ι w L cs vs.toList) {off : Nat} {av : AV} (h : partE E t cs off = some av) :
    ∃ v, (part t vs off).run P w = .ok v w ∧ R ι w L av v := by
  unfold partE at h
  cases hi : E.ty t with
  | none => simp [hi] at h
  | some i =>
    simp only [hi] at h
    unfold part
    simp only [Sem.run_bind, run_isAggV V hi w, Result.andThen_ok]
    cases ha : i.isAgg with
    | true =>
      simp only [ha, if_true] at h ⊢
      split at h
      · rename_i hle
        cases h
        refine ⟨.agg (vs.extract off (off + i.size)), by simp [run_sizeOfV V hi w], ?_⟩
        simp only [R]
        refine ⟨_, rfl, ?_⟩
        rw [Array.toList_extract]
        have := (hr.drop off).take i.size
        simpa [List.extract_eq_take_drop] using this
      · cases h
    | false =>
      simp only [ha, Bool.false_eq_true, if_false] at h ⊢
      obtain ⟨v, h1, h2⟩ := hr.get off av h
      rw [Array.getElem?_toList] at h1
      exact ⟨v, by simp [h1], h2⟩

/-! ### '==' -/
theorem str_inj {a b : List UInt8} : ((⟨a.toArray⟩ : ByteArray) == ⟨b.toArray⟩) = (a == b) := by
  rw [beq_toListBytes, ByteArray.toList_eq, ByteArray.toList_eq]

theorem eqFields_run (V : Valid E P) {n d : Nat} (ih : ∀ (t : Nat) (x y : AV) (vx vy : Value) (b : Bool), R ι w L x vx → R ι w L y vy → eqE E n t x y = some b → (Op.equalIn d t vx vy).run P w = .ok b w) : ∀ (fs : List Field) (xs ys : List AV) (vx vy : Array Value) (b : Bool), Rs ι w L xs vx.toList → Rs ι w L ys vy.toList →
    eqFields E (eqE E n) xs ys fs = some b → (Op.eqFields d vx vy fs).run P w = .ok b w
  | [], _, _, _, _, _, _, _, h => by simp [eqFields] at h; subst h; simp [Op.eqFields]
  | f :: fs, xs, ys, vx, vy, b, hx, hy, h => by
    unfold eqFields at h
    split at h
    · cases h
    · rename_i hname
      cases h1 : partE E f.type xs f.offset with
      | none => simp [h1] at h
      | some a =>
        cases h2 : partE E f.type ys f.offset with
        | none => simp [h1, h2] at h
        | some c =>
          simp only [h1, h2] at h
          obtain ⟨va, p1, r1⟩ := part_run V hx h1
          obtain ⟨vc, p2, r2⟩ := part_run V hy h2
          cases h3 : eqE E n f.type a c with
          | none => simp [h3] at h
          | some r =>
            have h4 := ih f.type a c va vc r r1 r2 h3
            simp only [h3] at h
            unfold Op.eqFields
            simp only [ne_eq, hname, not_false_eq_true, if_true, Sem.run_bind, p1, p2, Result.andThen_ok, h4]
            cases r with
            | true => simpa using eqFields_run V ih fs xs ys vx vy b hx hy h
            | false => simp at h; subst h; simp
theorem eqElems_run (V : Valid E P) {n d : Nat} (ih : ∀ (t : Nat) (x y : AV) (vx vy : Value) (b : Bool), R ι w L x vx → R ι w L y vy → eqE E n t x y = some b → (Op.equalIn d t vx vy).run P w = .ok b w) (elem size : Nat) : ∀ (xs ys : List AV) (vx vy : Array Value) (m i : Nat) (b : Bool), Rs ι w L xs vx.toList → Rs ι w L ys vy.toList →
    eqElems E (eqE E n) elem size xs ys m i = some b → (Op.eqItems d elem size vx vy (List.range' i m)).run P w = .ok b w
  | _, _, _, _, 0, _, _, _, _, h => by simp [eqElems] at h; subst h; simp [Op.eqItems]
  | xs, ys, vx, vy, m + 1, i, b, hx, hy, h => by
    unfold eqElems at h
    cases h1 : partE E elem xs (i * size) with
    | none => simp [h1] at h
    | some a =>
      cases h2 : partE E elem ys (i * size) with
      | none => simp [h1, h2] at h
      | some c =>
        simp only [h1, h2] at h
        obtain ⟨va, p1, r1⟩ := part_run V hx h1
        obtain ⟨vc, p2, r2⟩ := part_run V hy h2
        cases h3 : eqE E n elem a c with
        | none => simp [h3] at h
        | some r =>
          have h4 := ih elem a c va vc r r1 r2 h3
          simp only [h3] at h
          rw [List.range'_succ]
          unfold Op.eqItems
          simp only [Sem.run_bind, p1, p2, Result.andThen_ok, h4]
          cases r with
          | true => simpa using eqElems_run V ih elem size xs ys vx vy m (i + 1) b hx hy h
          | false => simp at h; subst h; simp
set_option maxHeartbeats 4000000 in
theorem eqE_run (V : Valid E P) : ∀ (n d t : Nat) (x y : AV) (vx vy : Value) (b : Bool), n ≤ d → R ι w L x vx → R ι w L y vy → eqE E n t x y = some b →
    (Op.equalIn d t vx vy).run P w = .ok b w
  | 0, _, _, _, _, _, _, _, _, _, _, h => by simp [eqE] at h
  | n + 1, d, t, x, y, vx, vy, b, hd, hx, hy, h => by
    obtain ⟨d, rfl⟩ : ∃ k, d = k + 1 := ⟨d - 1, by omega⟩
    unfold eqE at h
    cases hi : E.ty t with
    | none => simp [hi] at h
    | some i =>
      simp only [hi] at h
      have hu := (V.ty t i hi).und
      split at h
      case h_1 hund => simp only [R] at hx hy; subst hx; subst hy; cases h; rw [hund] at hu; simp [Op.equalIn, run_underlying hu]
      case h_2 hund =>
        simp only [R] at hx hy; subst hx; subst hy
        split at h
        · rename_i hk; cases h; rw [hund] at hu; simp [Op.equalIn, run_underlying hu, hk]
        · cases h
      case h_3 hund => simp only [R] at hx hy; subst hx; subst hy; cases h; rw [hund] at hu; simp [Op.equalIn, run_underlying hu, str_inj]
      case h_4 fields xs ys hund =>
        simp only [R] at hx hy
        obtain ⟨vxs, rfl, hx⟩ := hx
        obtain ⟨vys, rfl, hy⟩ := hy
        split at h
        · cases h
        · rename_i heq
          have heq' : i.eqOk = true := by simpa using heq
          rw [hund] at hu
          have hf : P.fieldsOf t = fields := by simp [Program.fieldsOf, hu]
          rw [run_equalIn_struct w d t vxs vys (by rw [hf]; exact hu) ((V.ty t i hi).eq heq').1, hf]
          exact eqFields_run V (fun t x y vx vy b h1 h2 h3 => eqE_run V n d t x y vx vy b (by omega) h1 h2 h3) fields.toList xs ys vxs vys b hx hy h
      case h_5 len elem xs ys hund =>
        simp only [R] at hx hy
        obtain ⟨vxs, rfl, hx⟩ := hx
        obtain ⟨vys, rfl, hy⟩ := hy
        cases hei : E.ty elem with
        | none => simp [hei] at h
        | some ei =>
          simp only [hei] at h
          obtain ⟨ti, h1, h2, _⟩ := V.info' hei
          rw [hund] at hu
          rw [run_equalIn_array w d vxs vys hu h1, cellsOf_V V hei, List.range_eq_range']
          exact eqElems_run V (fun t x y vx vy b h1 h2 h3 => eqE_run V n d t x y vx vy b (by omega) h1 h2 h3) elem ei.size xs ys vxs vys len 0 b hx hy h
      case h_29 => cases h
      all_goals (rename_i hund; rw [hund] at hu)
      case h_6 => simp only [R] at hx hy; subst hx; subst hy; cases h; simp [Op.equalIn, run_underlying hu]
      case h_7 => simp only [R] at hx hy; subst hx; obtain ⟨_, _, _, rfl⟩ := hy; cases h; simp [Op.equalIn, run_underlying hu]
      case h_8 => simp only [R] at hx hy; subst hx; obtain ⟨_, _, _, _, _, rfl, _⟩ := hy; cases h; simp [Op.equalIn, run_underlying hu]
      case h_9 => simp only [R] at hx hy; subst hy; obtain ⟨_, _, _, rfl⟩ := hx; cases h; simp [Op.equalIn, run_underlying hu]
      case h_10 => simp only [R] at hx hy; subst hy; obtain ⟨_, _, _, _, _, rfl, _⟩ := hx; cases h; simp [Op.equalIn, run_underlying hu]
      case h_11 => simp only [R] at hx hy; subst hx; subst hy; cases h; simp [Op.equalIn, run_underlying hu]
      case h_12 => simp only [R] at hx hy; subst hx; obtain ⟨_, _, _, _, _, _, _, rfl, _⟩ := hy; cases h; simp [Op.equalIn, run_underlying hu]
      case h_13 => simp only [R] at hx hy; subst hx; obtain ⟨_, _, _, _, _, _, rfl, _⟩ := hy; cases h; simp [Op.equalIn, run_underlying hu]
      case h_14 => simp only [R] at hx hy; subst hx; obtain ⟨_, _, rfl⟩ := hy; cases h; simp [Op.equalIn, run_underlying hu]
      case h_15 => simp only [R] at hx hy; subst hy; obtain ⟨_, _, _, _, _, _, _, rfl, _⟩ := hx; cases h; simp [Op.equalIn, run_underlying hu]
      case h_16 => simp only [R] at hx hy; subst hy; obtain ⟨_, _, _, _, _, _, rfl, _⟩ := hx; cases h; simp [Op.equalIn, run_underlying hu]
      case h_17 => simp only [R] at hx hy; subst hy; obtain ⟨_, _, rfl⟩ := hx; cases h; simp [Op.equalIn, run_underlying hu]
      case h_18 => simp only [R] at hx hy; subst hx; subst hy; cases h; simp [Op.equalIn, run_underlying hu]
      case h_19 => simp only [R] at hx hy; subst hx; obtain ⟨_, _, _, rfl⟩ := hy; cases h; simp [Op.equalIn, run_underlying hu]
      case h_20 => simp only [R] at hx hy; subst hx; obtain ⟨_, _, _, rfl, _⟩ := hy; cases h; simp [Op.equalIn, run_underlying hu]
      case h_21 => simp only [R] at hx hy; subst hy; obtain ⟨_, _, _, rfl⟩ := hx; cases h; simp [Op.equalIn, run_underlying hu]
      case h_22 => simp only [R] at hx hy; subst hy; obtain ⟨_, _, _, rfl, _⟩ := hx; cases h; simp [Op.equalIn, run_underlying hu]
      case h_23 => simp only [R] at hx hy; subst hx; subst hy; cases h; simp [Op.equalIn, run_underlying hu]
      case h_24 => simp only [R] at hx hy; subst hx; obtain ⟨_, _, rfl, _⟩ := hy; cases h; simp [Op.equalIn, run_underlying hu]
      case h_25 => simp only [R] at hx hy; subst hy; obtain ⟨_, _, rfl, _⟩ := hx; cases h; simp [Op.equalIn, run_underlying hu]
      case h_26 => simp only [R] at hx hy; subst hx; subst hy; cases h; simp [Op.equalIn, run_underlying hu]
      case h_27 => simp only [R] at hx hy; subst hx; obtain ⟨_, rfl, _⟩ := hy; cases h; simp [Op.equalIn, run_underlying hu]
      case h_28 => simp only [R] at hx hy; subst hy; obtain ⟨_, rfl, _⟩ := hx; cases h; simp [Op.equalIn, run_underlying hu]
end
end Dv

namespace Dv
open Go Go.RowKit
set_option linter.unusedSimpArgs false
set_option linter.unusedVariables false

section
variable {E : Env} {P : Program} {ι : Inj} {w : World} {L : Nat → Prop} {ts : List AV} {a : Act}

theorem evO_R (hf : Rs ι w L ts a.tmps.toList) {x : Operand} {av : AV} (h : evO ts x = some av) : R ι w L av (a.eval x) := by
  cases x with
  | tmp t =>
    simp only [evO, Option.some.injEq] at h
    subst h
    have := hf.getD t
    simpa [Act.eval] using this
  | const v => exact absN_R 20 v av h
  | global g => simp only [evO, Option.some.injEq] at h; subst h; simp [R, Act.eval]
  | func f => simp only [evO, Option.some.injEq] at h; subst h; simp [R, Rs, Act.eval]

theorem evL_R (hf : Rs ι w L ts a.tmps.toList) : ∀ {xs : List Operand} {avs : List AV}, evL ts xs = some avs → Rs ι w L avs (xs.map a.eval)
  | [], _, h => by simp [evL] at h; subst h; simp [Rs]
  | x :: xs, _, h => by
    unfold evL at h
    cases h1 : evO ts x with
    | none => simp [h1] at h
    | some v =>
      cases h2 : evL ts xs with
      | none => simp [h1, h2] at h
      | some vs =>
        simp [h1, h2] at h
        subst h
        simp only [Rs, List.map_cons]
        exact ⟨_, _, rfl, evO_R hf h1, evL_R hf h2⟩

/-- parts of a composite -/
def RsP (ι : Inj) (w : World) (L : Nat → Prop) : List (Nat × AV) → List (Nat × Value) → Prop
  | [], vs => vs = []
  | (i, x) :: xs, vs => ∃ y ys, vs = (i, y) :: ys ∧ R ι w L x y ∧ RsP ι w L xs ys

theorem evP_R (hf : Rs ι w L ts a.tmps.toList) : ∀ {xs : List (Nat × Operand)} {avs : List (Nat × AV)}, evP ts xs = some avs → RsP ι w L avs (xs.map fun (i, x) => (i, a.eval x))
  | [], _, h => by simp [evP] at h; subst h; simp [RsP]
  | (i, x) :: xs, _, h => by
    unfold evP at h
    cases h1 : evO ts x with
    | none => simp [h1] at h
    | some v =>
      cases h2 : evP ts xs with
      | none => simp [h1, h2] at h
      | some vs =>
        simp [h1, h2] at h
        subst h
        simp only [RsP, List.map_cons]
        exact ⟨_, _, rfl, evO_R hf h1, evP_R hf h2⟩

/-! ### numbers and strings -/
/-- numbers, bools and strings as the machine has them -/
def sc : AV → Value
  | .bool b => .bool b
  | .int k n => .int k n
  | .str s => .string ⟨s.toArray⟩
  | _ => undef

theorem intE_run {op : BinOp} {k : IntKind} {x y : Int} {av : AV} (h : intE op k x y = some av) (hop : op ≠ .shl ∧ op ≠ .shr) (t : Nat) :
    (binOp op t (.int k x) (.int k y)).run P w = .ok (sc av) w ∧ R ι w L av (sc av) := by
  cases op <;> simp only [intE] at h
  case quo => split at h; (· cases h); rename_i hy; cases h; exact ⟨by simp [binOp, Op.intDiv, hy, sc, wrapK], by simp [R, sc]⟩
  case rem => split at h; (· cases h); rename_i hy; cases h; exact ⟨by simp [binOp, Op.intDiv, hy, sc], by simp [R, sc]⟩
  all_goals first | (cases h; done) | (cases h; exact ⟨by simp [binOp, Op.intArith, Op.intBits, Op.intCmp, sc, wrapK], by simp [R, sc]⟩)

theorem strE_run {op : BinOp} {x y : List UInt8} {av : AV} (h : strE op x y = some av) (t : Nat) :
    (binOp op t (.string ⟨x.toArray⟩) (.string ⟨y.toArray⟩)).run P w = .ok (sc av) w ∧ R ι w L av (sc av) := by
  have hx : ∀ z : List UInt8, ByteArray.toList ⟨z.toArray⟩ = z := fun z => by rw [ByteArray.toList_eq]
  have hs : ∀ z : List UInt8, ByteArray.size ⟨z.toArray⟩ = z.length := fun z => by simp [ByteArray.size]
  have hm : IntKind.i64.max = 9223372036854775807 := by decide
  cases op <;> simp only [strE] at h
  case add =>
    split at h
    · cases h
    · rename_i hle
      cases h
      refine ⟨?_, by simp [R, sc]⟩
      simp only [binOp, Op.stringOp, hs, hm, if_neg hle, sc]
      simp only [Sem.run_pure]
      congr 2
  all_goals first | (cases h; done) | (cases h; exact ⟨by simp [binOp, Op.stringOp, hx, sc], by simp [R, sc]⟩)

theorem unE_run {op : UnOp} {x av : AV} {vx : Value} (hx : R ι w L x vx) (h : unE op x = some av) :
    ∃ cv, (Op.unary op vx).run P w = .ok cv w ∧ R ι w L av cv := by
  unfold unE at h
  split at h
  · simp only [R] at hx; subst hx; refine ⟨sc av, ?_, ?_⟩ <;> cases h <;> simp [Op.unary, Op.intArith, sc, wrapK, R]
  · simp only [R] at hx; subst hx
    simp only [intE, Option.some.injEq] at h
    refine ⟨sc av, ?_, ?_⟩ <;> subst h <;> simp [Op.unary, Op.intBits, sc, wrapK, R]
  · simp only [R] at hx; subst hx; refine ⟨sc av, ?_, ?_⟩ <;> cases h <;> simp [Op.unary, sc, R]
  · cases h

theorem R_int {x : AV} {k : IntKind} {n : Int} (h : R ι w L x (.int k n)) : x = .int k n := by
  cases x <;> simp [R] at h ⊢
  exact ⟨h.1.symm, h.2.symm⟩
theorem R_str {x : AV} {b : ByteArray} (h : R ι w L x (.string b)) : ∃ s, x = .str s := by
  cases x <;> simp [R] at h ⊢
theorem R_float {x : AV} {k : FloatKind} {b : Nat} (h : R ι w L x (.float k b)) : False := by
  cases x <;> simp [R] at h
theorem R_complex {x : AV} {k : FloatKind} {b c : Nat} (h : R ι w L x (.complex k b c)) : False := by
  cases x <;> simp [R] at h
theorem R_nilIface {x : AV} (h : R ι w L x .nilIface) : x = .nilIface := by
  cases x <;> simp [R] at h ⊢
theorem R_agg {x : AV} {vs : Array Value} (h : R ι w L x (.agg vs)) : ∃ cs, x = .agg cs := by
  cases x <;> simp [R] at h ⊢

theorem eqGuard_run (V : Valid E P) {t : Nat} {x y : AV} {ox oy : Operand} {vx vy : Value} {op : BinOp} (hx : R ι w L x vx) (hy : R ι w L y vy)
    (h : binE.eqTop E (isConstO ox || isConstO oy) t x y = some true) : (eqGuard op t ox oy vx vy).run P w = .ok () w := by
  by_cases hn : vx = .nilIface ∧ vy = .nilIface
  · obtain ⟨rfl, rfl⟩ := hn
    have e1 := R_nilIface hx
    have e2 := R_nilIface hy
    subst e1; subst e2
    simp only [binE.eqTop, Option.some.injEq, Bool.or_eq_true] at h
    unfold eqGuard
    cases ox <;> cases oy <;> simp [isConstO] at h <;> simp <;> (split <;> simp)
  by_cases ha : ∃ xs ys, vx = .agg xs ∧ vy = .agg ys
  · obtain ⟨vxs, vys, rfl, rfl⟩ := ha
    obtain ⟨xs, rfl⟩ := R_agg hx
    obtain ⟨ys, rfl⟩ := R_agg hy
    simp only [binE.eqTop, Option.map_eq_some_iff] at h
    obtain ⟨i, hi, he⟩ := h
    exact run_eqGuard_agg w op t ox oy vxs vys ((V.ty t i hi).eq he).2
  · have key : eqGuard op t ox oy vx vy = pure () := by
      unfold eqGuard
      cases vx <;> cases vy <;> first | (exact absurd ⟨rfl, rfl⟩ hn) | (exact absurd ⟨_, _, rfl, rfl⟩ ha) | (cases op <;> rfl)
    rw [key]; rfl

theorem binOp_eql {vx vy : Value} (h1 : ∀ k a k' b, ¬ (vx = .int k a ∧ vy = .int k' b)) (h2 : ∀ a b, ¬ (vx = .string a ∧ vy = .string b))
    (h3 : ∀ k a, vx ≠ .float k a) (h4 : ∀ k a b, vx ≠ .complex k a b) (t : Nat) :
    binOp .eql t vx vy = (do pure (.bool (← Op.equal t vx vy))) ∧ binOp .neq t vx vy = (do pure (.bool (!(← Op.equal t vx vy)))) := by
  cases vx
  case int => cases vy <;> first | exact ⟨rfl, rfl⟩ | exact absurd ⟨rfl, rfl⟩ (h1 _ _ _ _)
  case float => exact absurd rfl (h3 _ _)
  case complex => exact absurd rfl (h4 _ _ _)
  case string => cases vy <;> first | exact ⟨rfl, rfl⟩ | exact absurd ⟨rfl, rfl⟩ (h2 _ _)
  all_goals (cases vy <;> exact ⟨rfl, rfl⟩)

theorem binE_run (V : Valid E P) {op : BinOp} {t : Nat} {x y av : AV} {ox oy : Operand} {vx vy : Value} (hx : R ι w L x vx) (hy : R ι w L y vy)
    (h : binE E (isConstO ox || isConstO oy) op t x y = some av) :
    ∃ cv, ((do eqGuard op t ox oy vx vy; binOp op t vx vy : Sem Value)).run P w = .ok cv w ∧ R ι w L av cv := by
  have guard_int : ∀ (k k' : IntKind) (m n : Int), (eqGuard op t ox oy (.int k m) (.int k' n)).run P w = .ok () w := fun k k' m n => by
    unfold eqGuard; split <;> simp
  have guard_str : ∀ (m n : ByteArray), (eqGuard op t ox oy (.string m) (.string n)).run P w = .ok () w := fun m n => by
    unfold eqGuard; split <;> simp
  unfold binE at h
  split at h
  · simp only [R] at hx hy; subst hx; subst hy
    split at h
    · cases h
    · rename_i hb
      refine ⟨sc av, ?_, ?_⟩ <;> cases h <;> simp [guard_int, binOp, Op.shift, hb, sc, wrapK, R]
  · simp only [R] at hx hy; subst hx; subst hy
    split at h
    · cases h
    · rename_i hb
      refine ⟨sc av, ?_, ?_⟩ <;> cases h <;> simp [guard_int, binOp, Op.shift, hb, sc, wrapK, R]
  · rename_i n1 n2
    simp only [R] at hx hy; subst hx; subst hy
    split at h
    · cases h
    · rename_i hk
      simp only [ne_eq, Decidable.not_not] at hk
      subst hk
      have := intE_run (P := P) (ι := ι) (w := w) (L := L) h ⟨n1, n2⟩ t
      exact ⟨_, by simp only [Sem.run_bind, guard_int, Result.andThen_ok]; exact this.1, this.2⟩
  · simp only [R] at hx hy; subst hx; subst hy
    have := strE_run (P := P) (ι := ι) (w := w) (L := L) h t
    exact ⟨_, by simp only [Sem.run_bind, guard_str, Result.andThen_ok]; exact this.1, this.2⟩
  · rename_i n1 n2
    rw [Option.bind_eq_some_iff] at h
    obtain ⟨ok, h1, h2⟩ := h
    split at h2
    · rename_i hok
      subst hok
      rw [Option.map_eq_some_iff] at h2
      obtain ⟨b, h3, rfl⟩ := h2
      have hq := eqE_run V 20 10000 t x y vx vy b (by omega) hx hy h3
      have hb := binOp_eql (vx := vx) (vy := vy) (fun k p k' q e => by
          rcases e with ⟨rfl, rfl⟩
          exact n1 _ _ _ _ (R_int hx) (R_int hy)) (fun p q e => by
          rcases e with ⟨rfl, rfl⟩
          obtain ⟨s1, e1⟩ := R_str hx; obtain ⟨s2, e2⟩ := R_str hy
          exact n2 _ _ e1 e2) (fun k p e => by subst e; exact R_float hx) (fun k p q e => by subst e; exact R_complex hx) t
      refine ⟨.bool b, ?_, by simp [R]⟩
      simp only [Sem.run_bind, eqGuard_run V hx hy h1, Result.andThen_ok, hb.1, Op.equal, Op.maxDepth, hq, Sem.run_pure]
    · cases h2
  · rename_i n1 n2
    rw [Option.bind_eq_some_iff] at h
    obtain ⟨ok, h1, h2⟩ := h
    split at h2
    · rename_i hok
      subst hok
      rw [Option.map_eq_some_iff] at h2
      obtain ⟨b, h3, rfl⟩ := h2
      have hq := eqE_run V 20 10000 t x y vx vy b (by omega) hx hy h3
      have hb := binOp_eql (vx := vx) (vy := vy) (fun k p k' q e => by
          rcases e with ⟨rfl, rfl⟩
          exact n1 _ _ _ _ (R_int hx) (R_int hy)) (fun p q e => by
          rcases e with ⟨rfl, rfl⟩
          obtain ⟨s1, e1⟩ := R_str hx; obtain ⟨s2, e2⟩ := R_str hy
          exact n2 _ _ e1 e2) (fun k p e => by subst e; exact R_float hx) (fun k p q e => by subst e; exact R_complex hx) t
      refine ⟨.bool (!b), ?_, by simp [R]⟩
      simp only [Sem.run_bind, eqGuard_run V hx hy h1, Result.andThen_ok, hb.2, Op.equal, Op.maxDepth, hq, Sem.run_pure]
    · cases h2
  · cases h
end
end Dv

namespace Dv
open Go Go.RowKit
set_option linter.unusedSimpArgs false
set_option linter.unusedVariables false

theorem addr_add (b o n : Nat) : (⟨b, o, none⟩ : Addr).add n = ⟨b, o + n, none⟩ := by
  unfold Addr.add; split <;> simp_all

section
variable {E : Env} {P : Program} {ι : Inj} {w : World} {L : Nat → Prop} {ts : List AV} {a : Act}

theorem fieldAddrE_run (V : Valid E P) {t f : Nat} {x av : AV} {vx : Value} (hx : R ι w L x vx) (h : fieldAddrE E t x f = some av) :
    ∃ cv, (Instr.fieldAt t vx f).run P w = .ok cv w ∧ R ι w L av cv := by
  unfold fieldAddrE at h
  split at h
  case h_2 => cases h
  rename_i fields _ _ _ _ _ hi
  have hu := run_underlyingV V hi w
  split at h
  case h_2 => cases h
  rename_i fd hfd
  split at h
  case h_2 => cases h
  rename_i fi hfi
  have hs := run_sizeOfV V hfi w
  split at h
  · cases h
  rename_i hz
  split at h <;> first | (cases h; done) | skip
  · cases h
    simp only [R] at hx ⊢
    obtain ⟨cb, co, h1, rfl⟩ := hx
    refine ⟨_, ?_, cb, co, h1, rfl⟩
    simp [Instr.fieldAt, hu, hfd, Instr.sureAddr, fieldPlace, hs, hz, addr_add, Nat.add_assoc]
  · cases h
    simp only [R] at hx ⊢
    obtain ⟨cb, o, c, e, f', rfl, h2, h3, h4⟩ := hx
    refine ⟨_, ?_, cb, o, c, e, f', rfl, h2, h3, h4⟩
    simp [Instr.fieldAt, hu, hfd, Instr.sureAddr, fieldPlace, hs, hz, addr_add, Nat.add_assoc]
  · cases h
    simp only [R] at hx ⊢
    subst hx
    refine ⟨_, ?_, rfl⟩
    simp [Instr.fieldAt, hu, hfd, Instr.sureAddr, fieldPlace, hs, hz, addr_add, Nat.add_assoc]

theorem fieldE_run (V : Valid E P) {t f : Nat} {x av : AV} {vx : Value} (hx : R ι w L x vx) (h : fieldE E t x f = some av) :
    ∃ cv, (Instr.field t vx f).run P w = .ok cv w ∧ R ι w L av cv := by
  unfold fieldE at h
  split at h
  case h_2 => cases h
  rename_i fields _ _ _ _ _ cs hi
  have hu := run_underlyingV V hi w
  split at h
  case h_2 => cases h
  rename_i fd hfd
  simp only [R] at hx
  obtain ⟨vs, rfl, hr⟩ := hx
  obtain ⟨v, h1, h2⟩ := part_run V hr h
  exact ⟨v, by simp [Instr.field, hu, hfd, asAgg, h1], h2⟩

theorem indexE_run (V : Valid E P) {t : Nat} {x ix av : AV} {vx vi : Value} (hx : R ι w L x vx) (hix : R ι w L ix vi) (h : indexE E t x ix = some av) :
    ∃ cv, (Instr.index t vx vi).run P w = .ok cv w ∧ R ι w L av cv := by
  unfold indexE at h
  split at h
  case h_2 => cases h
  rename_i i k n hi
  have hu := run_underlyingV V hi w
  simp only [R] at hix
  subst hix
  split at h
  · rename_i len e cs hund
    rw [hund] at hu
    split at h
    case h_2 => cases h
    rename_i ei hei
    split at h
    · rename_i hb
      simp only [R] at hx
      obtain ⟨vs, rfl, hr⟩ := hx
      obtain ⟨v, h1, h2⟩ := part_run V hr h
      exact ⟨v, by simp [Instr.index, asIntOf, hu, hb, run_sizeOfV V hei w, h1], h2⟩
    · cases h
  · rename_i s hund
    rw [hund] at hu
    split at h
    · rename_i hb
      rw [Option.map_eq_some_iff] at h
      obtain ⟨c, hc, rfl⟩ := h
      simp only [R] at hx ⊢
      subst hx
      refine ⟨_, ?_, rfl⟩
      have : (⟨s.toArray⟩ : ByteArray)[n.toNat]? = some c := by
        rw [show (⟨s.toArray⟩ : ByteArray)[n.toNat]? = s.toArray[n.toNat]? from by
          simp only [getElem?_def, ByteArray.size]; rfl]
        simpa using hc
      simp [Instr.index, asIntOf, hu, hb, this]
    · cases h
  · cases h

theorem indexAddrE_run (V : Valid E P) {t : Nat} {x ix av : AV} {vx vi : Value} (hx : R ι w L x vx) (hix : R ι w L ix vi) (h : indexAddrE E t x ix = some av) :
    ∃ cv, (Instr.indexAt t vx vi).run P w = .ok cv w ∧ R ι w L av cv := by
  unfold indexAddrE at h
  split at h
  case h_2 => cases h
  rename_i i k n hi
  have hu := run_underlyingV V hi w
  simp only [R] at hix
  subst hix
  split at h
  · rename_i len e hund
    rw [hund] at hu
    split at h
    case h_2 => cases h
    rename_i ei hei
    split at h
    case isFalse => cases h
    rename_i hb
    split at h <;> first | (cases h; done) | skip
    · cases h
      simp only [R] at hx ⊢
      obtain ⟨cb, co, h1, rfl⟩ := hx
      refine ⟨_, ?_, cb, co, h1, rfl⟩
      simp [Instr.indexAt, asIntOf, hu, Instr.sureAddr, hb, run_sizeOfV V hei w, addr_add, Nat.add_assoc]
    · cases h
      simp only [R] at hx ⊢
      obtain ⟨cb, o, c, e', f', rfl, h2, h3, h4⟩ := hx
      refine ⟨_, ?_, cb, o, c, e', f', rfl, h2, h3, h4⟩
      simp [Instr.indexAt, asIntOf, hu, Instr.sureAddr, hb, run_sizeOfV V hei w, addr_add, Nat.add_assoc]
    · cases h
      simp only [R] at hx ⊢
      subst hx
      refine ⟨_, ?_, rfl⟩
      simp [Instr.indexAt, asIntOf, hu, Instr.sureAddr, hb, run_sizeOfV V hei w, addr_add, Nat.add_assoc]
  · rename_i e hund
    rw [hund] at hu
    split at h
    case h_2 => cases h
    rename_i ei hei
    split at h <;> first | (cases h; done) | skip
    · split at h
      case isFalse => cases h
      rename_i hb
      obtain ⟨he, hb⟩ := hb
      cases h
      simp only [R] at hx ⊢
      obtain ⟨cb, co, cap, c, e', f', h1, rfl, _⟩ := hx
      refine ⟨_, ?_, cb, co, h1, rfl⟩
      simp [Instr.indexAt, asIntOf, hu, hb, run_sizeOfV V hei w, addr_add, Nat.add_assoc, he]
    · split at h
      case isFalse => cases h
      rename_i hb
      cases h
      simp only [R] at hx ⊢
      obtain ⟨cb, o, cap, c, e', f', rfl, h2, h3, h4, h5⟩ := hx
      refine ⟨_, ?_, cb, o, c, e', f', rfl, h3, h4, h5⟩
      simp [Instr.indexAt, asIntOf, hu, hb, run_sizeOfV V hei w, addr_add, Nat.add_assoc]
  · cases h

/-! ### slices -/
def OptR (ι : Inj) (w : World) (L : Nat → Prop) : Option AV → Option Value → Prop
  | none, v => v = none
  | some x, v => ∃ y, v = some y ∧ R ι w L x y

theorem evOpt_R (hf : Rs ι w L ts a.tmps.toList) {x : Option Operand} {av : Option AV} (h : evOpt ts x = some av) : OptR ι w L av (x.map a.eval) := by
  cases x with
  | none => simp only [evOpt, Option.some.injEq] at h; subst h; simp [OptR]
  | some x =>
    simp only [evOpt, Option.map_eq_some_iff] at h
    obtain ⟨v, h1, rfl⟩ := h
    simp only [OptR, Option.map_some]
    exact ⟨_, rfl, evO_R hf h1⟩

theorem asNat_run {lim cap n : Nat} {x : AV} {v : Value} (hx : R ι w L x v) (h : asNat lim x = some n) (hc : lim ≤ cap) (code : BoundsCode) :
    (Instr.sliceBound v cap code).run P w = .ok n w ∧ n ≤ lim := by
  unfold asNat at h
  split at h
  · rename_i k m
    split at h
    · rename_i hb
      cases h
      simp only [R] at hx
      subst hx
      have : 0 ≤ m ∧ m ≤ (cap : Int) := ⟨hb.1, by omega⟩
      exact ⟨by simp [Instr.sliceBound, asIntOf, this], by omega⟩
    · cases h
  · cases h

theorem low_run {H l : Nat} {lo : Option AV} {vlo : Option Value} (hlo : OptR ι w L lo vlo)
    (h : loE H lo = some l) :
    (match vlo with | some v => Instr.sliceBound v H .sliceB | none => (pure 0 : Sem Nat)).run P w = .ok l w ∧ l ≤ H := by
  cases lo with
  | none => simp only [OptR] at hlo; subst hlo; cases h; exact ⟨rfl, Nat.zero_le _⟩
  | some x =>
    simp only [OptR] at hlo
    obtain ⟨y, rfl, hy⟩ := hlo
    exact asNat_run (P := P) hy h (Nat.le_refl _) _

theorem bounds_run {len kc cap l h : Nat} {lo hi : Option AV} {vlo vhi : Option Value} (hlo : OptR ι w L lo vlo) (hhi : OptR ι w L hi vhi)
    (hb : boundsE len kc lo hi = some (l, h)) (h1 : len ≤ kc) (h2 : kc ≤ cap) (isS : Bool) :
    (Instr.sliceBounds isS len cap vlo vhi none).run P w = .ok (l, h, cap) w ∧ l ≤ h ∧ h ≤ kc := by
  unfold boundsE at hb
  split at hb
  · cases hb
  rename_i H hH
  split at hb
  · cases hb
  rename_i Lw hL
  simp only [Option.some.injEq, Prod.mk.injEq] at hb
  obtain ⟨rfl, rfl⟩ := hb
  have e2 := low_run (P := P) hlo hL
  cases hi with
  | none =>
    simp only [OptR] at hhi; subst hhi
    cases hH
    refine ⟨?_, e2.2, h1⟩
    unfold Instr.sliceBounds
    simp only [Sem.run_bind, Sem.run_pure, Result.andThen_ok, Option.isSome_none, Bool.false_eq_true, if_false]
    cases vlo with
    | none => have := e2.1; simp at this; subst this; rfl
    | some v => have := e2.1; simp only at this; simp only [Sem.run_bind, this, Result.andThen_ok, Sem.run_pure]
  | some x =>
    simp only [OptR] at hhi
    obtain ⟨y, rfl, hy⟩ := hhi
    have e1 := asNat_run (P := P) hy hH h2 (if isS then .sliceAcap else .sliceAlen)
    refine ⟨?_, e2.2, e1.2⟩
    unfold Instr.sliceBounds
    simp only [Sem.run_bind, Sem.run_pure, Result.andThen_ok, Option.isSome_none, Bool.false_eq_true, if_false]
    rw [e1.1]
    simp only [Result.andThen_ok]
    cases vlo with
    | none => have := e2.1; simp at this; subst this; rfl
    | some v => have := e2.1; simp only at this; simp only [Sem.run_bind, this, Result.andThen_ok, Sem.run_pure]

theorem sliceE_run (V : Valid E P) {t : Nat} {x av : AV} {vx : Value} {lo hi : Option AV} {vlo vhi : Option Value} (hx : R ι w L x vx) (hlo : OptR ι w L lo vlo) (hhi : OptR ι w L hi vhi)
    (h : sliceE E t x lo hi = some av) : ∃ cv, (Instr.sliceAt t vx vlo vhi none).run P w = .ok cv w ∧ R ι w L av cv := by
  unfold sliceE at h
  split at h
  · cases h
  rename_i i hi'
  have hu := run_underlyingV V hi' w
  split at h
  · rename_i s hund
    rw [hund] at hu
    rw [Option.map_eq_some_iff] at h
    obtain ⟨⟨l, hh⟩, hb, rfl⟩ := h
    simp only [R] at hx
    subst hx
    have := bounds_run (P := P) hlo hhi hb (Nat.le_refl _) (Nat.le_refl _) false
    refine ⟨.string ⟨((s.drop l).take (hh - l)).toArray⟩, ?_, by simp [R]⟩
    have hsz : ByteArray.size ⟨s.toArray⟩ = s.length := by simp [ByteArray.size]
    simp only [Instr.sliceAt, Sem.run_bind, hu, Result.andThen_ok, Instr.slice, Option.isSome_none, Bool.false_eq_true, if_false, Sem.run_pure, hsz, this.1]
    congr 2
    apply ByteArray.ext
    rw [ByteArray.data_extract]
    apply Array.toList_inj.1
    simp [List.extract_eq_take_drop]
  · rename_i e hund
    rw [hund] at hu
    split at h
    case h_2 => cases h
    rename_i ei p hei hb
    obtain ⟨l, hh⟩ := p
    cases h
    simp only [R] at hx
    subst hx
    have hb1 := bounds_run (P := P) hlo hhi hb (Nat.le_refl _) (Nat.le_refl _) true
    have : l = 0 ∧ hh = 0 := by omega
    obtain ⟨rfl, rfl⟩ := this
    refine ⟨.slice none 0 0, ?_, by simp [R]⟩
    obtain ⟨_, _, hw0⟩ := V.info' hei
    simp [Instr.sliceAt, hu, Instr.slice, hb1.1, run_sizeOfV V hei w]
  · rename_i e hund
    rw [hund] at hu
    split at h
    case h_2 => cases h
    rename_i ei p hei hb
    obtain ⟨l, hh⟩ := p
    cases h
    simp only [R] at hx
    obtain ⟨ad, cap, rfl⟩ := hx
    have hb1 := bounds_run (P := P) (cap := cap) hlo hhi hb (Nat.le_refl _) (Nat.zero_le _) true
    have : l = 0 ∧ hh = 0 := by omega
    obtain ⟨rfl, rfl⟩ := this
    refine ⟨_, by simp [Instr.sliceAt, hu, Instr.slice, hb1.1, run_sizeOfV V hei w]; rfl, ?_⟩
    simp only [R]
    split
    · exact ⟨_, _, rfl⟩
    · exact ⟨_, _, rfl⟩
  · rename_i e b off len esz kc hund
    rw [hund] at hu
    split at h
    case h_2 => cases h
    rename_i ei l hh hei hb
    simp only [R] at hx
    obtain ⟨cb, co, cap, c, e', f, h1, rfl, h3, h4, h5, h6⟩ := hx
    have hb1 := bounds_run (P := P) (cap := cap) hlo hhi hb h3 h4 true
    split at h
    · cases h
    rename_i hes
    have hes : ei.size = esz := by simpa using hes
    have hrun : (Instr.sliceAt t (.slice (some ⟨cb, co + off, none⟩) len cap) vlo vhi none).run P w =
        .ok (.slice (if cap = l then some ⟨cb, co + off, none⟩ else some ⟨cb, co + off + l * esz, none⟩) (hh - l) (cap - l)) w := by
      simp [Instr.sliceAt, hu, Instr.slice, hb1.1, run_sizeOfV V hei w, addr_add, hes]
    split at h
    · rename_i hl
      subst hl
      cases h
      refine ⟨_, hrun, ?_⟩
      simp only [R]
      refine ⟨cb, co, cap, c, e', f, h1, ?_, hb1.2.2, h4, h5, h6⟩
      split <;> simp
    · rename_i hl
      split at h
      · rename_i hlh
        cases h
        refine ⟨_, hrun, ?_⟩
        simp only [R, hlh, Nat.sub_self]
        split
        · exact ⟨_, _, rfl⟩
        · exact ⟨_, _, rfl⟩
      · rename_i hlh
        cases h
        refine ⟨_, hrun, ?_⟩
        simp only [R]
        have hne : cap ≠ l := by omega
        refine ⟨cb, co, cap - l, c, e', f, h1, by rw [if_neg hne, Nat.add_assoc], by omega, by omega, h5, ?_⟩
        have : l * esz + (cap - l) * esz = cap * esz := by rw [← Nat.add_mul]; congr 1; omega
        omega
  · rename_i e cs len hund
    rw [hund] at hu
    split at h
    case h_2 => cases h
    rename_i ei l hh hei hb
    simp only [R] at hx
    obtain ⟨cb, o, cap, c, e', f, rfl, h2, h3, h4, h5⟩ := hx
    have hb1 := bounds_run (P := P) (cap := cap) hlo hhi hb (Nat.le_refl _) h2 true
    have hrun : (Instr.sliceAt t (.slice (some ⟨cb, o, none⟩) len cap) vlo vhi none).run P w =
        .ok (.slice (if cap = l then some ⟨cb, o, none⟩ else some ⟨cb, o + l * ei.size, none⟩) (hh - l) (cap - l)) w := by
      simp [Instr.sliceAt, hu, Instr.slice, hb1.1, run_sizeOfV V hei w, addr_add]
    split at h
    · rename_i hlh
      cases h
      refine ⟨_, hrun, ?_⟩
      simp only [R, hlh, Nat.sub_self]
      split
      · exact ⟨_, _, rfl⟩
      · exact ⟨_, _, rfl⟩
    · rename_i hlh
      cases h
      refine ⟨_, hrun, ?_⟩
      simp only [R]
      have hne : cap ≠ l := by omega
      exact ⟨cb, o + l * ei.size, cap - l, c, e', f, by rw [if_neg hne], by omega, h3, h4, (h5.drop _).take _⟩
  · cases h
end
end Dv

namespace Dv
open Go Go.RowKit
set_option linter.unusedSimpArgs false
set_option linter.unusedVariables false

section
variable {E : Env} {P : Program} {ι : Inj} {w : World} {L : Nat → Prop} {ts : List AV} {a : Act} {Lo : Nat → Prop} {w0 : World} {H : Hp}

theorem cell_at {cb o : Nat} {c : Array Value} {e : TypeId} {f : Nat × Nat} (h : w.heap[cb]? = some (.cells c e f)) : w.cell? ⟨cb, o, none⟩ = c[o]? := by
  simp [World.cell?, h]

theorem ptrE_R (S : Sim E Lo w0 ι H w) {p : AV} {v : Value} {cs : List AV} {off : Nat} (hp : R ι w (Live Lo ι H) p v) (h : ptrE E H p = some (cs, off)) :
    ∃ cb o c e f, v = .pointer (some ⟨cb, o + off, none⟩) ∧ w.heap[cb]? = some (.cells c e f) ∧ RAt ι w (Live Lo ι H) c o cs := by
  unfold ptrE at h
  split at h
  · rename_i b off'
    split at h
    case h_2 => cases h
    rename_i st cs' hb
    split at h
    · cases h
    rename_i hst
    cases h
    simp only [R] at hp
    obtain ⟨cb, co, h1, rfl⟩ := hp
    obtain ⟨cb', co', o, g1, g2, g3, _⟩ := S.obj b _ hb hst
    rw [h1] at g1; cases g1
    simp only [ObjR] at g3
    obtain ⟨c, e, f, rfl, g4, _⟩ := g3
    exact ⟨cb, co, c, e, f, rfl, g2, g4⟩
  · cases h
    simp only [R] at hp
    obtain ⟨cb, o, c, e, f, rfl, h2, h3, h4⟩ := hp
    exact ⟨cb, o, c, e, f, rfl, h2, RAt.ext (Ext.refl _ _) _ _ _ _ _ (noInj_le _) h4⟩
  · rename_i g off'
    rw [Option.map_eq_some_iff] at h
    obtain ⟨cs', hg, h⟩ := h
    cases h
    simp only [R] at hp
    subst hp
    obtain ⟨c, e, f, h1, h2, h3⟩ := S.glob g _ hg
    exact ⟨g, 0, c, e, f, by simp, h1, RAt.ext (Ext.refl _ _) _ _ _ _ _ (noInj_le _) h3⟩
  · cases h

theorem cells_run {cb o : Nat} {c : Array Value} {e : TypeId} {f : Nat × Nat} (hc : w.heap[cb]? = some (.cells c e f)) {cs : List AV} (hr : RAt ι w L c o cs) :
    ∃ vs : List Value, vs.length = cs.length ∧ (loadCells ⟨cb, o, none⟩ cs.length).run P w = .ok vs.toArray w ∧ Rs ι w L cs vs := by
  refine ⟨(c.extract o (o + cs.length)).toList, hr.list.length, ?_, hr.list⟩
  have := run_loadCells_list (P := P) w ⟨cb, o, none⟩ (c.extract o (o + cs.length)).toList (fun j v hj => by
    rw [addr_add, cell_at hc]
    rw [Array.getElem?_toList, Array.getElem?_extract] at hj
    split at hj
    · exact hj
    · cases hj)
  rw [hr.list.length] at this
  exact this

theorem load_run (V : Valid E P) {t : Nat} {cb o off : Nat} {c : Array Value} {e : TypeId} {f : Nat × Nat} (hc : w.heap[cb]? = some (.cells c e f)) {cs : List AV} (hr : RAt ι w L c o cs)
    {av : AV} (h : partE E t cs off = some av) : ∃ v, (loadVar t ⟨cb, o + off, none⟩).run P w = .ok v w ∧ R ι w L av v := by
  unfold partE at h
  cases hi : E.ty t with
  | none => simp [hi] at h
  | some i =>
    simp only [hi] at h
    unfold loadVar
    simp only [Sem.run_bind, run_isAggV V hi w, Result.andThen_ok]
    cases ha : i.isAgg with
    | true =>
      simp only [ha, if_true] at h ⊢
      split at h
      · rename_i hle
        cases h
        have hr' := (hr.drop off).take i.size
        have hlen : ((cs.drop off).take i.size).length = i.size := by simp; omega
        obtain ⟨vs, h1, h2, h3⟩ := cells_run (P := P) hc hr'
        rw [hlen] at h2
        refine ⟨.agg vs.toArray, by simp [run_sizeOfV V hi w, h2], ?_⟩
        simp only [R]
        exact ⟨vs.toArray, rfl, by simpa using h3⟩
      · cases h
    | false =>
      simp only [ha, Bool.false_eq_true, if_false] at h ⊢
      obtain ⟨v, h1, h2⟩ := hr.get off av h
      exact ⟨v, by simp [cell_at hc, h1], h2⟩

theorem loadE_run (V : Valid E P) (S : Sim E Lo w0 ι H w) {t : Nat} {p av : AV} {v : Value} (hp : R ι w (Live Lo ι H) p v) (h : loadE E H t p = some av) :
    ∃ cv, (Instr.loadAt t v).run P w = .ok cv w ∧ R ι w (Live Lo ι H) av cv := by
  unfold loadE at h
  split at h
  case h_2 => cases h
  rename_i cs off hpt
  obtain ⟨cb, o, c, e, f, rfl, h2, h3⟩ := ptrE_R S hp hpt
  obtain ⟨cv, g1, g2⟩ := load_run V h2 h3 h
  exact ⟨cv, by simpa [Instr.loadAt, Instr.sureAddr] using g1, g2⟩

theorem sliceArrE_run (V : Valid E P) (S : Sim E Lo w0 ι H w) {t : Nat} {x av : AV} {vx : Value} {lo hi : Option AV} {vlo vhi : Option Value} (hx : R ι w (Live Lo ι H) x vx)
    (hlo : OptR ι w (Live Lo ι H) lo vlo) (hhi : OptR ι w (Live Lo ι H) hi vhi)
    (h : sliceArrE E H t x lo hi = some av) : ∃ cv, (Instr.sliceAt t vx vlo vhi none).run P w = .ok cv w ∧ R ι w (Live Lo ι H) av cv := by
  unfold sliceArrE at h
  split at h
  case h_2 => cases h
  rename_i n e _ _ _ _ _ hi'
  have hu := run_underlyingV V hi' w
  split at h
  case h_2 => cases h
  rename_i ei l hh hei hb
  have hb1 := bounds_run (P := P) (cap := n) hlo hhi hb (Nat.le_refl _) (Nat.le_refl _) false
  have hrun : ∀ cb o, (Instr.sliceAt t (.pointer (some ⟨cb, o, none⟩)) vlo vhi none).run P w =
      .ok (.slice (some (if n = l then ⟨cb, o, none⟩ else ⟨cb, o + l * ei.size, none⟩)) (hh - l) (n - l)) w := by
    intro cb o
    simp [Instr.sliceAt, hu, Instr.sureAddr, hb1.1, run_sizeOfV V hei w, addr_add]
  split at h
  · rename_i b off
    split at h
    case h_2 => cases h
    rename_i st cs hbk
    split at h
    · cases h
    rename_i hst
    simp only [not_or] at hst
    simp only [R] at hx
    obtain ⟨cb, co, h1, rfl⟩ := hx
    obtain ⟨cb', co', o, g1, g2, g3, _⟩ := S.obj b _ hbk hst.1
    rw [h1] at g1; cases g1
    simp only [ObjR] at g3
    obtain ⟨c, e', f, rfl, g4, _⟩ := g3
    split at h
    · rename_i hlh
      cases h
      refine ⟨_, hrun _ _, ?_⟩
      simp only [R, hlh, Nat.sub_self]
      exact ⟨_, _, rfl⟩
    · rename_i hlh
      cases h
      refine ⟨_, hrun _ _, ?_⟩
      simp only [R]
      have hne : n ≠ l := by omega
      refine ⟨cb, co, n - l, c, e', f, h1, by rw [if_neg hne, Nat.add_assoc], by omega, by omega, g2, ?_⟩
      have hm : l * ei.size + (n - l) * ei.size = n * ei.size := by rw [← Nat.add_mul]; congr 1; omega
      have hlen : off + n * ei.size ≤ cs.length := by omega
      have hcs : cs ≠ [] := fun e => by subst e; simp at hst
      have := g4.size hcs
      omega
  · rename_i cs off
    simp only [R] at hx
    obtain ⟨cb, o, c, e', f, rfl, h2, h3, h4⟩ := hx
    split at h
    · rename_i hlh
      cases h
      refine ⟨_, hrun _ _, ?_⟩
      simp only [R, hlh, Nat.sub_self]
      exact ⟨_, _, rfl⟩
    · rename_i hlh
      cases h
      refine ⟨_, hrun _ _, ?_⟩
      simp only [R]
      have hne : n ≠ l := by omega
      refine ⟨cb, o + off + l * ei.size, n - l, c, e', f, by rw [if_neg hne], by omega, h2, h3, ?_⟩
      have := (h4.drop (off + l * ei.size)).take ((hh - l) * ei.size)
      rwa [← Nat.add_assoc] at this
  · cases h

/-! ### composites -/
theorem foldl_set (off : Nat) : ∀ (vs : List Value) (k : Nat) (cur : List Value), off + k + vs.length ≤ cur.length →
    (vs.zipIdx k).foldl (fun (cs : List Value) p => cs.set (off + p.2) p.1) cur = cur.take (off + k) ++ vs ++ cur.drop (off + k + vs.length)
  | [], k, cur, h => by simp
  | v :: vs, k, cur, h => by
    simp only [List.zipIdx_cons, List.foldl_cons]
    simp only [List.length_cons] at h
    rw [foldl_set off vs (k + 1) (cur.set (off + k) v) (by simp; omega)]
    have h1 : (cur.set (off + k) v).take (off + (k + 1)) = cur.take (off + k) ++ [v] := by
      rw [show off + (k + 1) = (off + k) + 1 from by omega, List.take_set, List.take_succ_eq_append_getElem (by omega), List.set_append]
      simp [Nat.min_eq_left (show off + k ≤ cur.length by omega)]
    have h2 : (cur.set (off + k) v).drop (off + (k + 1) + vs.length) = cur.drop (off + k + (vs.length + 1)) := by
      rw [List.drop_set_of_lt (by omega)]
      congr 1; omega
    rw [h1, h2]
    simp

theorem foldl_setA (off : Nat) : ∀ (zs : List (Value × Nat)) (cur : Array Value),
    (zs.foldl (fun cs p => cs.setIfInBounds (off + p.2) p.1) cur).toList = zs.foldl (fun (cs : List Value) p => cs.set (off + p.2) p.1) cur.toList
  | [], cur => rfl
  | z :: zs, cur => by
    simp only [List.foldl_cons]
    rw [foldl_setA off zs, Array.toList_setIfInBounds]

theorem fill_run {place : Nat → Option (Nat × Nat)} : ∀ {l : List (Nat × AV)} {vs : List (Nat × Value)} {cs out : List AV} {cells : Array Value}, RsP ι w L l vs → Rs ι w L cs cells.toList →
    fillE place cs l = some out → ∃ res, Instr.fill place cells vs = some res ∧ Rs ι w L out res.toList
  | [], _, _, _, _, hl, hc, h => by
    simp only [RsP] at hl; subst hl
    simp only [fillE, Option.some.injEq] at h; subst h
    exact ⟨_, rfl, hc⟩
  | (i, x) :: l, _, cs, out, cells, hl, hc, h => by
    simp only [RsP] at hl
    obtain ⟨y, ys, rfl, hxy, hl⟩ := hl
    unfold fillE at h
    split at h
    · cases h
    rename_i off size hp
    split at h
    · cases h
    rename_i hcond
    simp only [ne_eq, Bool.or_eq_true, decide_eq_true_eq, not_or, Decidable.not_not, Nat.not_lt] at hcond
    obtain ⟨hsz, hle⟩ := hcond
    have hcell := hxy.cells
    have hl1 : y.cells.size = size := by have := hcell.length; simpa [hsz] using this
    have hl2 : cells.size = cs.length := by have := hc.length; simpa using this
    unfold Instr.fill
    simp only [hp]
    rw [if_neg (by simp [hl1, hl2]; omega)]
    refine fill_run hl ?_ h
    rw [← Array.foldl_toList, foldl_setA off]
    rw [Array.toList_zipIdx, foldl_set off _ 0 _ (by simp [hl1, hl2]; omega)]
    have e1 : y.cells.toList.length = size := by simpa using hl1
    rw [e1]
    exact ((hc.take off).append hcell).append (hc.drop (off + size))
end
end Dv

namespace Dv
open Go Go.RowKit
set_option linter.unusedSimpArgs false
set_option linter.unusedVariables false

section
variable {E : Env} {P : Program} {ι : Inj} {w : World} {L : Nat → Prop} {ts : List AV} {a : Act} {Lo : Nat → Prop} {w0 : World} {H : Hp}

/-- what an operation has brought about: a value and an effect, in the machine's world -/
def Post (E : Env) (Lo : Nat → Prop) (w0 : World) (ι : Inj) (H : Hp) (w : World) (v : AV) (e : Eff) (cv : Value) (w' : World) : Prop :=
  ∃ ι' : Inj, ι.le ι' ∧ Sim E Lo w0 ι' (e.app H) w' ∧ Ext w (Live Lo ι H) w' (Live Lo ι' (e.app H)) ∧ R ι' w' (Live Lo ι' (e.app H)) v cv

theorem Post.pure (S : Sim E Lo w0 ι H w) {v : AV} {cv : Value} (h : R ι w (Live Lo ι H) v cv) : Post E Lo w0 ι H w v (.sets []) cv w :=
  ⟨ι, Inj.le_refl _, S, Ext.refl _ _, h⟩

/-- a new block of cells -/
theorem new_cells (S : Sim E Lo w0 ι H w) {nid : Nat} (hf : Free ι H nid) {cs : List AV} {c : Array Value} {e : TypeId} {f : Nat × Nat} {w1 : World} (hw : w1.heap = w.heap)
    (hos : w1.os = w.os) (htp : w1.tape = w.tape) (hout : w1.output = w.output) (hr : RAt ι w (Live Lo ι H) c 0 cs) (hfz : ∀ k, k < c.size → ¬ (f.1 ≤ k ∧ k < f.2)) :
    let blk := Blk.cells .live cs
    let ι' := ι.put nid (w.heap.size, 0)
    ι.le ι' ∧ Sim E Lo w0 ι' ((Eff.sets [(nid, blk)]).app H) (w1.alloc (.cells c e f)) ∧
      Ext w (Live Lo ι H) (w1.alloc (.cells c e f)) (Live Lo ι' ((Eff.sets [(nid, blk)]).app H)) ∧
      (w1.alloc (.cells c e f)).heap[w.heap.size]? = some (.cells c e f) ∧ ι' nid = some (w.heap.size, 0) := by
  intro blk ι'
  have hx := ext_alloc S hf (blk := blk) rfl (.cells c e f) hw
  have hle := Inj.le_put (p := (w.heap.size, 0)) hf.1
  refine ⟨hle, ?_, hx, ?_, by simp [ι', Inj.put]⟩
  · refine S.alloc hf rfl hw hos htp hout ?_
    simp only [ObjR, blk]
    exact ⟨c, e, f, rfl, RAt.ext hx _ _ _ _ _ hle hr, fun _ => hfz⟩
  · simp [World.alloc, hw]

theorem new_other (S : Sim E Lo w0 ι H w) {nid : Nat} (hf : Free ι H nid) {blk : Blk} (hl : blk.st = .live) {o : Obj} {w1 : World} (hw : w1.heap = w.heap)
    (hos : w1.os = w.os) (htp : w1.tape = w.tape) (hout : w1.output = w.output) (hr : ∀ ι w L, ObjR ι w L 0 blk o) (hfine : blk.fine E := by trivial) :
    let ι' := ι.put nid (w.heap.size, 0)
    ι.le ι' ∧ Sim E Lo w0 ι' ((Eff.sets [(nid, blk)]).app H) (w1.alloc o) ∧
      Ext w (Live Lo ι H) (w1.alloc o) (Live Lo ι' ((Eff.sets [(nid, blk)]).app H)) ∧ ι' nid = some (w.heap.size, 0) := by
  intro ι'
  exact ⟨Inj.le_put hf.1, S.alloc hf hl hw hos htp hout (hr _ _ _) hfine, ext_alloc S hf hl o hw, by simp [ι', Inj.put]⟩

theorem zero_run (V : Valid E P) {t : Nat} {i : TyI} {cs : List AV} (hi : E.ty t = some i) (hz : i.zero = some cs) (ι : Inj) (w : World) (L : Nat → Prop) :
    ∃ z, (zeroValue t).run P w = .ok z w ∧ Rs ι w L cs z.cells.toList ∧ cs.length = i.size ∧ (i.isAgg = true → ∃ a, z = .agg a) ∧ (i.isAgg = false → z.cells = #[z]) := by
  obtain ⟨ti, h1, h2, h3, h4⟩ := (V.ty t i hi).info
  obtain ⟨z, z1, z2, z3, z4, z5⟩ := h4 cs hz
  exact ⟨z, by simp [zeroValue, typeInfo, h1, z1], absL_Rs 19 _ _ z2, z3, z4, z5⟩

theorem zeroE_run (V : Valid E P) {t : Nat} {z : AV} (h : zeroE E t = some z) (ι : Inj) (w : World) (L : Nat → Prop) :
    ∃ zv, (zeroValue t).run P w = .ok zv w ∧ R ι w L z zv := by
  unfold zeroE at h
  split at h
  case h_2 => cases h
  rename_i i hi
  split at h
  case h_2 => cases h
  rename_i cs hz
  obtain ⟨zv, z1, z2, z3, z4, z5⟩ := zero_run V hi hz ι w L
  refine ⟨zv, z1, ?_⟩
  split at h
  · rename_i ha
    cases h
    obtain ⟨vs, rfl⟩ := z4 ha
    simp only [R]
    exact ⟨vs, rfl, z2⟩
  · rename_i ha
    split at h
    · rename_i c
      cases h
      rw [z5 (by simpa using ha)] at z2
      simp only [Rs] at z2
      obtain ⟨y, ys, e1, e2, e3⟩ := z2
      simp at e1
      rw [e1.1]
      exact e2
    · cases h

theorem alloc_run (V : Valid E P) (S : Sim E Lo w0 ι H w) {t nid : Nat} (hf : Free ι H nid) {z : AV} (h : zeroE E t = some z) :
    ∃ cv w', (Instr.alloc t true (.tuple #[])).run P w = .ok cv w' ∧ Post E Lo w0 ι H w (.hptr nid 0) (.sets [(nid, .cells .live z.cells)]) cv w' := by
  obtain ⟨zv, z1, z2⟩ := zeroE_run V h ι w (Live Lo ι H)
  have hr : RAt ι w (Live Lo ι H) zv.cells 0 z.cells := z2.cells.at (fun i v hv => by simpa using hv)
  have N := new_cells S hf (e := t) (f := (0, 0)) (w1 := w) rfl rfl rfl rfl hr (by simp)
  refine ⟨.pointer (some ⟨w.heap.size, 0, none⟩), w.alloc (.cells zv.cells t (0, 0)), ?_, _, N.1, N.2.1, N.2.2.1, ?_⟩
  · simp [Instr.alloc, z1, newVar, newRow]
  · simp only [R]
    exact ⟨_, _, N.2.2.2.2, by simp⟩

theorem box_run (S : Sim E Lo w0 ι H w) {t nid : Nat} (hf : Free ι H nid) {z : AV} {zv : Value} (z2 : R ι w (Live Lo ι H) z zv) :
    ∃ cv w', (Instr.box t zv).run P w = .ok cv w' ∧ Post E Lo w0 ι H w (.hptr nid 0) (.sets [(nid, .cells .live z.cells)]) cv w' := by
  have hr : RAt ι w (Live Lo ι H) zv.cells 0 z.cells := z2.cells.at (fun i v hv => by simpa using hv)
  have N := new_cells S hf (e := t) (f := (0, 0)) (w1 := w) rfl rfl rfl rfl hr (by simp)
  refine ⟨.pointer (some ⟨w.heap.size, 0, none⟩), w.alloc (.cells zv.cells t (0, 0)), ?_, _, N.1, N.2.1, N.2.2.1, ?_⟩
  · simp [Instr.box, newVar, newRow]
  · simp only [R]
    exact ⟨_, _, N.2.2.2.2, by simp⟩

theorem repE_get (z : List AV) : ∀ (n k : Nat), (repE z n)[k]? = if k < n * z.length then z[k % z.length]? else none
  | 0, k => by simp [repE]
  | n + 1, k => by
    simp only [repE]
    rw [List.getElem?_append]
    by_cases hk : k < z.length
    · rw [if_pos hk, if_pos (by rw [Nat.add_mul]; omega), Nat.mod_eq_of_lt hk]
    · rw [if_neg hk, repE_get z n (k - z.length)]
      have e : (k - z.length) % z.length = k % z.length := by
        rw [Nat.mod_eq_sub_mod (a := k) (by omega)]
      rw [e]
      have e2 : (n + 1) * z.length = n * z.length + z.length := by rw [Nat.add_mul, Nat.one_mul]
      by_cases h2 : k - z.length < n * z.length
      · rw [if_pos h2, if_pos (by omega)]
      · rw [if_neg h2, if_neg (by omega)]

theorem repE_len (z : List AV) : ∀ n, (repE z n).length = n * z.length
  | 0 => by simp [repE]
  | n + 1 => by simp [repE, repE_len z n, Nat.add_mul]; omega

theorem rep_R {cs : List AV} {z : Array Value} (h : Rs ι w L cs z.toList) (hne : 0 < cs.length) (n : Nat) :
    Rs ι w L (repE cs n) ((Array.range (n * cs.length)).map (fun i => z[i % z.size]!)).toList := by
  have hz : z.size = cs.length := by have := h.length; simpa using this
  refine Rs.of_get (by simp [repE_len]) fun i x hx => ?_
  rw [repE_get] at hx
  split at hx
  · rename_i hi
    obtain ⟨v, h1, h2⟩ := h.get _ x hx
    refine ⟨v, ?_, h2⟩
    rw [Array.getElem?_toList] at h1 ⊢
    rw [Array.getElem?_map, Array.getElem?_range, if_pos hi]
    simp only [Option.map_some, hz]
    rw [getElem!_def, h1]
  · cases hx

theorem makeSlice_run (V : Valid E P) (S : Sim E Lo w0 ι H w) {t nid : Nat} (hf : Free ι H nid) {l c v : AV} {vl vc : Value} {st : List (Nat × Blk)}
    (hl : R ι w (Live Lo ι H) l vl) (hc : R ι w (Live Lo ι H) c vc) (h : makeSliceE E nid t l c = some (v, st)) :
    ∃ cv w', (Instr.makeSlice t vl vc).run P w = .ok cv w' ∧ Post E Lo w0 ι H w v (.sets st) cv w' := by
  unfold makeSliceE at h
  split at h
  case h_2 => cases h
  rename_i e _ _ _ _ _ kl n kc m hi
  have hu := (V.ty t _ hi).und
  split at h
  case h_2 => cases h
  rename_i ei hei
  split at h
  case h_2 => cases h
  rename_i z hz
  split at h
  case isFalse => cases h
  rename_i hcond
  obtain ⟨h0, hnm, hb, h63, hzl, hpos⟩ := hcond
  simp only [Option.some.injEq, Prod.mk.injEq] at h
  obtain ⟨rfl, rfl⟩ := h
  simp only [R] at hl hc
  subst hl; subst hc
  obtain ⟨ti, g1, g2, g3, g4⟩ := (V.ty e ei hei).info
  obtain ⟨zv, z1, z2, z3, _, _⟩ := g4 z hz
  have hzr : Rs ι w (Live Lo ι H) z zv.cells.toList := absL_Rs 19 _ _ z2
  have hm : m.toNat * ei.bytes ≤ 140737488355328 := hb
  have run := run_make (P := P) w t e ti zv hu g1 z1 kl kc n m h0 hnm (by
      rw [g3]
      have := Int.ofNat_le.2 hm
      have e1 : ((m.toNat : Nat) : Int) = m := by omega
      rw [Int.natCast_mul, e1] at this
      rw [Int.mul_comm]; omega) (by omega)
  rw [g2] at run
  have hr0 := rep_R hzr (by omega) m.toNat
  rw [hzl] at hr0
  have hr : RAt ι w (Live Lo ι H) (madeCells zv.cells (m.toNat * ei.size)) 0 (repE z m.toNat) := hr0.at (fun i v hv => by
    rw [Array.getElem?_toList] at hv
    unfold madeCells
    rw [Nat.zero_add]
    exact hv)
  have N := new_cells S hf (e := e) (f := (0, 0)) (w1 := w) rfl rfl rfl rfl hr (fun k _ hk => by exact absurd hk.2 (Nat.not_lt_zero _))
  refine ⟨_, _, run, _, N.1, N.2.1, N.2.2.1, ?_⟩
  simp only [R]
  refine ⟨w.heap.size, 0, m.toNat, madeCells zv.cells (m.toNat * ei.size), e, (0, 0), N.2.2.2.2, rfl, by omega, Nat.le_refl _, N.2.2.2.1, ?_⟩
  rw [size_madeCells]; omega
end
end Dv

namespace Dv
open Go Go.RowKit
set_option linter.unusedSimpArgs false
set_option linter.unusedVariables false

section
variable {E : Env} {P : Program} {ι : Inj} {w : World} {L : Nat → Prop} {ts : List AV} {a : Act} {Lo : Nat → Prop} {w0 : World} {H : Hp}

theorem heap_setCell (w : World) (b o : Nat) (v : Value) (x : Nat) : (w.setCell ⟨b, o, none⟩ v).heap[x]? =
    if x = b then (w.heap[b]?).map (fun ob => match ob with | .cells c e f => .cells (c.setIfInBounds o v) e f | ob => ob) else w.heap[x]? := by
  simp only [World.setCell, Array.getElem?_modify]
  by_cases hx : x = b
  · subst hx
    simp only [if_true]
    cases w.heap[x]? with
    | none => rfl
    | some ob => cases ob <;> simp
  · rw [if_neg (fun e => hx e.symm), if_neg hx]

theorem setCells_only : ∀ (vs : List Value) (w : World) (cb o : Nat) (c : Array Value) (e : TypeId) (f : Nat × Nat), w.heap[cb]? = some (.cells c e f) → o + vs.length ≤ c.size →
    ∃ c', Only w (w.setCells cb o vs) cb (.cells c' e f) ∧ c'.size = c.size ∧ ∀ k : Nat, c'[k]? = if o ≤ k ∧ k < o + vs.length then vs[k - o]? else c[k]?
  | [], w, cb, o, c, e, f, h, _ => ⟨c, ⟨rfl, rfl, rfl, rfl, h, fun _ _ => rfl⟩, rfl, fun k => by rw [if_neg (by simp only [List.length_nil]; omega)]⟩
  | v :: vs, w, cb, o, c, e, f, h, hl => by
    simp only [List.length_cons] at hl
    have h1 : (w.setCell ⟨cb, o, none⟩ v).heap[cb]? = some (.cells (c.setIfInBounds o v) e f) := by
      rw [heap_setCell, if_pos rfl, h]; rfl
    obtain ⟨c', g1, g2, g3⟩ := setCells_only vs (w.setCell ⟨cb, o, none⟩ v) cb (o + 1) _ e f h1 (by simp; omega)
    refine ⟨c', ⟨g1.os, g1.tape, g1.output, ?_, g1.here, fun x hx => ?_⟩, by rw [g2]; simp, fun k => ?_⟩
    · have := g1.size
      simpa [World.setCells, World.setCell] using this
    · have := g1.there x hx
      rw [heap_setCell, if_neg hx] at this
      exact this
    · rw [g3]
      simp only [List.length_cons]
      by_cases hk : k = o
      · subst hk
        rw [if_neg (by omega), if_pos (by omega), Array.getElem?_setIfInBounds, if_pos rfl, if_pos (by omega)]
        simp
      · by_cases h2 : o + 1 ≤ k ∧ k < o + 1 + vs.length
        · rw [if_pos h2, if_pos (by omega)]
          rw [show k - o = (k - (o + 1)) + 1 from by omega]
          simp
        · rw [if_neg h2, if_neg (by omega), Array.getElem?_setIfInBounds_ne (fun q => hk q.symm)]

/-- cells are stored: the machine's world, and the data -/
theorem store_cells (S : Sim E Lo w0 ι H w) {b cb co off : Nat} {cs xs : List AV} {vs : List Value} (hb : H[b]? = some (.cells .live cs)) (hi : ι b = some (cb, co))
    (hr : Rs ι w (Live Lo ι H) xs vs) (hle : off + xs.length ≤ cs.length) (hone : xs.all oneA = true) :
    (storeCells ⟨cb, co + off, none⟩ vs).run P w = .ok () (w.setCells cb (co + off) vs) ∧
      Sim E Lo w0 ι (H.set b (.cells .live (spliceL cs off xs))) (w.setCells cb (co + off) vs) ∧
      Ext w (Live Lo ι H) (w.setCells cb (co + off) vs) (Live Lo ι (H.set b (.cells .live (spliceL cs off xs)))) := by
  obtain ⟨cb', co', o, g1, g2, g3, g4, _⟩ := S.obj b _ hb (by simp [Blk.st])
  rw [hi] at g1; cases g1
  simp only [ObjR] at g3
  obtain ⟨c, e, f, rfl, g5, g6⟩ := g3
  have hlen : vs.length = xs.length := hr.length
  by_cases hx0 : xs = []
  · subst hx0
    simp at hlen
    subst hlen
    have e1 : spliceL cs off [] = cs := by simp [spliceL]
    have e2 : H.set b (.cells .live cs) = H := by
      apply List.ext_getElem?
      intro k
      rw [List.getElem?_set]
      split
      · rename_i hk; subst hk; rw [hb]; split <;> rename_i hlt
        · rfl
        · exact absurd (List.getElem?_eq_some_iff.1 hb).1 hlt
      · rfl
    rw [e1, e2]
    exact ⟨by simp [storeCells, World.setCells], S, Ext.refl _ _⟩
  have hxl : 0 < xs.length := List.length_pos_iff.2 hx0
  have hcs : cs ≠ [] := fun q => by subst q; simp only [List.length_nil] at hle; omega
  have hsz := g5.size hcs
  have hrun := run_storeCells_cells (P := P) cb (co + off) vs 0 w (fun j hj => by
      rw [cell_at g2, Array.getElem?_eq_getElem (show co + off + 0 + j < c.size by omega)]
      rfl) (fun j hj => by
      have := g6 trivial (co + off + 0 + j) (by omega)
      simp only [World.frozen?, g2]
      simpa using this) (fun v hv => by
      obtain ⟨i, hi'⟩ := List.getElem?_of_mem hv
      have hil : i < xs.length := by have := (List.getElem?_eq_some_iff.1 hi').1; omega
      obtain ⟨v', k1, k2⟩ := hr.get i _ (List.getElem?_eq_getElem hil)
      rw [hi'] at k1; cases k1
      exact oneA_cell k2 (List.all_eq_true.1 hone _ (List.getElem_mem hil)))
  obtain ⟨c', q1, q2, q3⟩ := setCells_only vs w cb (co + off) c e f g2 (by omega)
  refine ⟨by simpa using hrun, ?_⟩
  have hlive : Live Lo ι H cb := .inr ⟨b, _, co, hb, rfl, hi⟩
  have hx := q1.ext (L := Live Lo ι H) (L' := Live Lo ι H) g2 (fun cs e f q => by cases q; exact ⟨c', _, rfl, q2⟩) hlive (fun _ h => h)
  refine S.update hb rfl rfl hi g2 (fun cs e f q => by cases q; exact ⟨c', _, rfl, q2⟩) q1 ?_
  simp only [ObjR]
  refine ⟨c', e, f, rfl, RAt.of_get fun i x hxi => ?_, fun _ => by rw [q2]; exact g6 trivial⟩
  rw [q3]
  unfold spliceL at hxi
  rw [List.getElem?_append, List.getElem?_append] at hxi
  simp only [List.length_append, List.length_take] at hxi
  have hmin : min off cs.length = off := by omega
  rw [hmin] at hxi
  by_cases h1 : i < off
  · rw [if_pos (by omega), if_pos h1, List.getElem?_take, if_pos h1] at hxi
    rw [if_neg (by omega)]
    obtain ⟨v, k1, k2⟩ := g5.get i x hxi
    exact ⟨v, k1, R.ext hx _ _ _ _ (Inj.le_refl _) k2⟩
  · by_cases h2 : i < off + xs.length
    · rw [if_pos h2, if_neg h1] at hxi
      rw [if_pos (by omega)]
      obtain ⟨v, k1, k2⟩ := hr.get _ x hxi
      exact ⟨v, by rw [← k1]; congr 1; omega, R.ext hx _ _ _ _ (Inj.le_refl _) k2⟩
    · rw [if_neg h2, List.getElem?_drop] at hxi
      rw [if_neg (by omega)]
      obtain ⟨v, k1, k2⟩ := g5.get _ x hxi
      refine ⟨v, ?_, R.ext hx _ _ _ _ (Inj.le_refl _) k2⟩
      rw [← k1]; congr 1; omega

theorem eff_set {b : Nat} {blk : Blk} {x : Blk} (hb : H[b]? = some x) : (Eff.sets [(b, blk)]).app H = H.set b blk := by
  have := (List.getElem?_eq_some_iff.1 hb).1
  simp [Eff.app, putB, this]

theorem storeE_run (V : Valid E P) (S : Sim E Lo w0 ι H w) {t : Nat} {p x : AV} {vp vx : Value} {st : List (Nat × Blk)} (hp : R ι w (Live Lo ι H) p vp) (hx : R ι w (Live Lo ι H) x vx)
    (h : storeE E H t p x = some st) : ∃ w', (Instr.storeAt t vp vx).run P w = .ok () w' ∧ Post E Lo w0 ι H w undefV (.sets st) undef w' := by
  unfold storeE at h
  split at h
  case h_2 => cases h
  rename_i b off i hi
  split at h
  case h_2 => cases h
  rename_i cs hb
  split at h
  · cases h
  rename_i hcond
  simp only [ne_eq, Bool.or_eq_true, decide_eq_true_eq, not_or, Decidable.not_not, Nat.not_lt, Bool.not_eq_true', Bool.not_eq_false] at hcond
  obtain ⟨⟨h1, h2⟩, h3⟩ := hcond
  cases h
  simp only [R] at hp
  obtain ⟨cb, co, g1, rfl⟩ := hp
  have T := store_cells (P := P) (xs := x.cells) (off := off) S hb g1 hx.cells (by omega) (by simpa using h3)
  refine ⟨_, ?_, ι, Inj.le_refl _, by rw [eff_set hb]; exact T.2.1, by rw [eff_set hb]; exact T.2.2, by simp [undefV, undef, R, Rs]⟩
  have hsz : vx.cells.size = i.size := by have := hx.cells.length; simpa [h1] using this
  simp only [Instr.storeAt, Instr.sureAddr, Sem.run_bind, Sem.run_pure, Result.andThen_ok, storeVar, run_sizeOfV V hi w, hsz, ne_eq, not_true_eq_false, if_false]
  exact T.1
end
end Dv
