/- A part of the proof that PairChecks returns true for every input; no condition of its own. -/
import Derived.Calls
import Derived.Orders
import Derived.Below
import Derived.RangeFuncLeaves
import Derived.OrdersIn
import Derived.Laws.IdiomCopy
import Derived.Laws.Append
import Derived.Laws.IdiomRangeMap
import Derived.ChangeKeysEq
import Derived.Laws.StructEq
import Derived.Laws.Slices
set_option linter.all false
set_option maxHeartbeats 100000000
set_option maxRecDepth 100000
open Option renaming map_eq_some_iff->aKP,some->aKV,isSome_none->aKY,bind_eq_some_iff->aK1
open List renaming getElem?_set->aKQ,getElem?_eq_some_iff->aKS,extract_eq_take_drop->aKZ,replicate->aK3,getElem?_eq_none->aK4,getElem?_append->aK5,getElem?_take->aK6,getElem?_drop->aK7
open Nat renaming le_refl->aKR,add_assoc->aKU,sub_self->aK0
open Bool renaming false_eq_true->aKT
open Array renaming getElem?_push->aKW,getElem?_toList->aKX,getElem?_extract->aK2
namespace Dv
open Go
inductive AV where
 |bool (b:Bool)
 |int (k:IntKind) (n:Int)
 |str (s:List UInt8)
 |jF
 |b9 (b off:Nat)
 |eX (cells:List AV) (off:Nat)
 |sf (g off:Nat)
 |aH
 |eW
 |aI (b off len esz kc:Nat)
 |aK (cells:List AV) (len:Nat)
 |jV
 |jt (b:Nat)
 |tO (keys HV:List AV)
 |jk
 |func (f:Nat) (first cap:List AV)
 |nilIface
 |iface (t:Nat) (v:AV)
 |agg (cells:List AV)
 |tuple (vs:List AV)
 |yield (l:Nat)
 deriving Inhabited
inductive gu where
 |live|ro|dead
 deriving DecidableEq,Inhabited
inductive cz where
 |cells (st:gu) (cs:List AV)
 |map (st:gu) (keys HV:List AV)
 |kT (s:List UInt8) (pos:Nat)
 |loop (st:LoopState) (pending:Option Code) (ts:List AV) (params:List Nat) (assign body:Code)
 deriving Inhabited
abbrev Hp:=List cz
structure Bn where
 cV:TypeDesc
 isAgg:Bool
 size:Nat
 bytes:Nat
 zero:Option (List AV)
 eS:Bool
 deriving Inhabited
structure FnI where
 code:Code
 ntmps:Nat
 results:List ResultVar
 pure:Bool
 fL:Bool
 deriving Inhabited
structure Env where
 ty:Nat->Option Bn
 fn:Nat->Option FnI
 glob:Nat->Option (List AV)
 ov:Nat->List AV->Option AV
 sj:Nat->List AV->Hp->Option (AV×Hp)
 pairs:Nat->Nat->List (Nat×Nat)
def aZ:AV:=.tuple []
def AV.cells:AV->List AV
 |.agg cs=>cs
 |v=>[v]
def dP{α β:Type}(f:α->Option β):List α->Option (List β)
 |[]=>some []
 |x::xs=>match f x with
  |none=>none
  |some y=>match dP f xs with
   |none=>none
   |some ys=>some (y::ys)
def df:AV->Bool
 |.agg _|.tuple _=>false
 |_=>true
def DZ:Nat->Value->Option AV
 |0,_=>none
 |n+1,v=>match v with
  |.bool b=>some (.bool b)
  |.int k n=>some (.int k n)
  |.string s=>some (.str s.data.toList)
  |.pointer none=>some .jF
  |.slice none 0 0=>some .aH
  |.map none=>some .jV
  |.nilFunc=>some .jk
  |.nilIface=>some .nilIface
  |.agg cs=>(dP (DZ n) cs.toList).map .agg
  |.tuple cs=>(dP (DZ n) cs.toList).map .tuple
  |.iface t v=>(DZ n v).map (.iface t)
  |_=>none
def ays(v:Value):Option AV:=DZ 20 v
mutual
def aU:AV->Bool
 |.b9 .. |.aI .. |.jt _|.yield _=>false
 |.agg cs=>bE cs
 |.tuple cs=>bE cs
 |.iface _ v=>aU v
 |.func _ a b=>bE a&&bE b
 |_=>true
def bE:List AV->Bool
 |[]=>true
 |x::xs=>aU x&&bE xs
end
def bR:AV->Bool
 |.bool _|.int .. |.str _|.jF|.aH|.eW|.jV|.jk|.nilIface=>true
 |.agg cs=>wT cs
 |.tuple cs=>wT cs
 |_=>false
where
 wT:List AV->Bool
 |[]=>true
 |x::xs=>bR x&&wT xs
def fz(H:Hp):Nat->AV->Option (AV×List Nat)
 |0,_=>none
 |n+1,av=>
  let l (cs:List AV):Option (List AV×List Nat):=(dP (fz H n) cs).map fun r=>(r.map (·.1),r.flatMap (·.2))
  match av with
  |.b9 b off=>match H[b]? with
   |some (.cells st cs)=>if st=.dead then none else(l cs).map fun(c,bs)=>(.eX c off,b::bs)
   |_=>none
  |.aI b off len esz _=>match H[b]? with
   |some (.cells st cs)=>if st=.dead||cs.length<off+len*esz then none else
    (l ((cs.drop off).take (len*esz))).map fun(c,bs)=>(.aK c len,b::bs)
   |_=>none
  |.jt b=>match H[b]? with
   |some (.map st ks vs)=>if st=.dead then none else match l ks,l vs with
    |some (k,b1),some (v,b2)=>some (.tO k v,b::(b1++b2))
    |_,_=>none
   |_=>none
  |.agg cs=>(l cs).map fun(c,bs)=>(.agg c,bs)
  |.tuple cs=>(l cs).map fun(c,bs)=>(.tuple c,bs)
  |.iface t v=>(fz H n v).map fun(c,bs)=>(.iface t c,bs)
  |.func f a c=>match l a,l c with
   |some (a,b1),some (c,b2)=>some (.func f a c,b1++b2)
   |_,_=>none
  |.yield _=>none
  |v=>some (v,[])
def cz.nL:cz->cz
 |.cells .live cs=>.cells .ro cs
 |.map .live ks vs=>.map .ro ks vs
 |b=>b
def mark(H:Hp)(bs:List Nat):Hp:=bs.foldl (fun H b=>H.modify b cz.nL) H
def bW(H:Hp)(vs:List AV):Option (List AV×List Nat):=
 if bE vs then some (vs,[])else
 match dP (fz H 40) vs with
 |none=>none
 |some r=>some (r.map (·.1),r.flatMap (·.2))
inductive cE where
 |bU (l:List (Nat×cz))
 |marks (l:List Nat)
 |looks (l:List Nat)
 |Ee (H:Hp)
def eE(H:Hp)(b:Nat)(x:cz):Hp:=if b<H.length then H.set b x else H++[x]
def cE.app(H:Hp):cE->Hp
 |.bU l=>l.foldl (fun H p=>eE H p.1 p.2) H
 |.marks l=>mark H l
 |.looks _=>H
 |.Ee H'=>H'
def aX(k:IntKind)(n:Int):Int:=k.wrap n
def vF(op:BinOp)(k:IntKind)(a b:Int):Option AV:=
 match op with
 |.add=>some (.int k (aX k (a+b)))
 |.sub=>some (.int k (aX k (a-b)))
 |.mul=>some (.int k (aX k (a*b)))
 |.quo=>if b=0 then none else some (.int k (aX k (a.tdiv b)))
 |.rem=>if b=0 then none else some (.int k (a.tmod b))
 |.and=>some (.int k (aX k (BitVec.ofInt k.bits a&&&BitVec.ofInt k.bits b).toNat))
 |.or=>some (.int k (aX k (BitVec.ofInt k.bits a|||BitVec.ofInt k.bits b).toNat))
 |.xor=>some (.int k (aX k (BitVec.ofInt k.bits a^^^BitVec.ofInt k.bits b).toNat))
 |.andNot=>some (.int k (aX k (BitVec.ofInt k.bits a&&& ~~~BitVec.ofInt k.bits b).toNat))
 |.eql=>some (.bool (a==b))
 |.neq=>some (.bool (a !=b))
 |.lss=>some (.bool (a<b))
 |.leq=>some (.bool (a<=b))
 |.gtr=>some (.bool (a>b))
 |.geq=>some (.bool (a≥b))
 |_=>none
def X0(op:BinOp)(a b:List UInt8):Option AV:=
 match op with
 |.add=>if((a.length+b.length:Nat):Int)>9223372036854775807 then none else some (.str (a++b))
 |.eql=>some (.bool (a==b))
 |.neq=>some (.bool (!(a==b)))
 |.lss=>some (.bool (Op.bytesLess a b))
 |.leq=>some (.bool (Op.bytesLess a b||a==b))
 |.gtr=>some (.bool (!(Op.bytesLess a b||a==b)))
 |.geq=>some (.bool (!Op.bytesLess a b))
 |_=>none
def jq(E:Env)(t:Nat)(cs:List AV)(off:Nat):Option AV:=
 match E.ty t with
 |none=>none
 |some i=>if i.isAgg then(if off+i.size<=cs.length then some (.agg ((cs.drop off).take i.size))else none)else cs[off]?
def eqFields(E:Env)(eq:Nat->AV->AV->Option Bool)(xs ys:List AV):List Field->Option Bool
 |[]=>some true
 |f::fs=>
  if f.name= "_" then none else
  match jq E f.type xs f.offset,jq E f.type ys f.offset with
  |some a,some b=>match eq f.type a b with
   |some true=>eqFields E eq xs ys fs
   |some false=>some false
   |none=>none
  |_,_=>none
def jL(E:Env)(eq:Nat->AV->AV->Option Bool)(elem size:Nat)(xs ys:List AV):Nat->Nat->Option Bool
 |0,_=>some true
 |m+1,i=>
  match jq E elem xs (i*size),jq E elem ys (i*size)with
  |some a,some b=>match eq elem a b with
   |some true=>jL E eq elem size xs ys m (i+1)
   |some false=>some false
   |none=>none
  |_,_=>none
def yJ(E:Env):Nat->Nat->AV->AV->Option Bool
 |0,_,_,_=>none
 |n+1,t,x,y=>
  match E.ty t with
  |none=>none
  |some i=>
  match i.cV,x,y with
  |.bool,.bool a,.bool b=>some (a==b)
  |.int _,.int k a,.int k' b=>if k=k' then some (a==b)else none
  |.string,.str a,.str b=>some (a==b)
  |.struct fields,.agg xs,.agg ys=>if !i.eS then none else eqFields E (yJ E n) xs ys fields.toList
  |.array len elem,.agg xs,.agg ys=>match E.ty elem with
   |none=>none
   |some ei=>jL E (yJ E n) elem ei.size xs ys len 0
  |.pointer _,.jF,.jF=>some true
  |.pointer _,.jF,.b9 .. |.pointer _,.jF,.eX .. |.pointer _,.b9 ..,.jF|.pointer _,.eX ..,.jF=>some false
  |.slice _,.aH,.aH=>some true
  |.slice _,.aH,.aI .. |.slice _,.aH,.aK .. |.slice _,.aH,.eW
  |.slice _,.aI ..,.aH|.slice _,.aK ..,.aH|.slice _,.eW,.aH=>some false
  |.map _ _,.jV,.jV=>some true
  |.map _ _,.jV,.jt _|.map _ _,.jV,.tO .. |.map _ _,.jt _,.jV|.map _ _,.tO ..,.jV=>some false
  |.func _ _ _,.jk,.jk=>some true
  |.func _ _ _,.jk,.func .. |.func _ _ _,.func ..,.jk=>some false
  |.interface _,.nilIface,.nilIface=>some true
  |.interface _,.nilIface,.iface .. |.interface _,.iface ..,.nilIface=>some false
  |_,_,_=>none
def dC(E:Env)(c:Bool)(op:BinOp)(t:Nat)(x y:AV):Option AV:=
 match op,x,y with
 |.shl,.int k a,.int _ b=>if b<0 then none else some (.int k (aX k (a*2^(min b.toNat k.bits))))
 |.shr,.int k a,.int _ b=>if b<0 then none else some (.int k (a.fdiv (2^(min b.toNat k.bits))))
 |op,.int k a,.int k' b=>if k≠k' then none else vF op k a b
 |op,.str a,.str b=>X0 op a b
 |.eql,x,y=>(zl x y).bind fun ok=>if ok then(yJ E 20 t x y).map .bool else none
 |.neq,x,y=>(zl x y).bind fun ok=>if ok then(yJ E 20 t x y).map (fun b=>.bool (!b))else none
 |_,_,_=>none
where
 zl (x y:AV):Option Bool:=match x,y with
  |.agg _,.agg _=>(E.ty t).map (·.eS)
  |.nilIface,.nilIface=>some c
  |_,_=>some true
def unE(op:UnOp)(x:AV):Option AV:=
 match op,x with
 |.neg,.int k n=>some (.int k (aX k (0-n)))
 |.xor,.int k n=>vF .xor k (if k.signed then-1 else k.max) n
 |.not,.bool b=>some (.bool !b)
 |_,_=>none
def gV(place:Nat->Option (Nat×Nat))(cells:List AV):List (Nat×AV)->Option (List AV)
 |[]=>some cells
 |(i,v)::rest=>
  match place i with
  |none=>none
  |some (off,size)=>
   if v.cells.length≠size||off+size>cells.length then none
   else gV place (cells.take off++v.cells++cells.drop (off+size)) rest
def iE(zero:List AV):Nat->List AV
 |0=>[]
 |n+1=>zero++iE zero n
def gX(E:Env)(t:Nat):Option (Nat->Option (Nat×Nat)):=
 match E.ty t with
 |some {cV:=.struct fields,..}=>if fields.toList.all (fun f=>(E.ty f.type).isSome)then some fun i=>match fields[i]? with
  |some f=>(E.ty f.type).map fun fi=>(f.offset,fi.size)
  |none=>none
  else none
 |some {cV:=.array _ elem,..}=>(E.ty elem).map fun ei=>fun i=>some (i*ei.size,ei.size)
 |_=>none
def HP(E:Env)(H:Hp):AV->Option (List AV×Nat)
 |.b9 b off=>match H[b]? with
  |some (.cells st cs)=>if st=.dead then none else some (cs,off)
  |_=>none
 |.eX cs off=>some (cs,off)
 |.sf g off=>(E.glob g).map fun cs=>(cs,off)
 |_=>none
def gT(E:Env)(H:Hp)(t:Nat)(p:AV):Option AV:=
 match HP E H p with
 |some (cs,off)=>jq E t cs off
 |none=>none
def cH(cs:List AV)(off:Nat)(xs:List AV):List AV:=cs.take off++xs++cs.drop (off+xs.length)
def iO(E:Env)(H:Hp)(t:Nat)(p v:AV):Option (List (Nat×cz)):=
 match p,E.ty t with
 |.b9 b off,some i=>match H[b]? with
  |some (.cells .live cs)=>
   if v.cells.length≠i.size||off+i.size>cs.length||!v.cells.all df then none
   else some [(b,.cells .live (cH cs off v.cells))]
  |_=>none
 |_,_=>none
def asNat(lim:Nat):AV->Option Nat
 |.int _ n=>if 0<=n/\n<=lim then some n.toNat else none
 |_=>none
def hiE(len kc:Nat):Option AV->Option Nat
 |none=>some len
 |some v=>asNat kc v
def loE(h:Nat):Option AV->Option Nat
 |none=>some 0
 |some v=>asNat h v
def gW(len kc:Nat)(lo hi:Option AV):Option (Nat×Nat):=
 match hiE len kc hi with
 |none=>none
 |some h=>match loE h lo with
  |none=>none
  |some l=>some (l,h)
def iS(E:Env)(t:Nat)(x:AV)(lo hi:Option AV):Option AV:=
 match E.ty t with
 |none=>none
 |some i=>
 match i.cV,x with
 |.string,.str s=>(gW s.length s.length lo hi).map fun(l,h)=>.str ((s.drop l).take (h-l))
 |.slice e,.aH=>match E.ty e,gW 0 0 lo hi with
  |some _,some _=>some .aH
  |_,_=>none
 |.slice e,.eW=>match E.ty e,gW 0 0 lo hi with
  |some _,some _=>some .eW
  |_,_=>none
 |.slice e,.aI b off len esz kc=>match E.ty e,gW len kc lo hi with
  |some ei,some (l,h)=>if ei.size≠esz then none
   else if l=0 then some (.aI b off h esz kc)
   else if l=h then some .eW
   else some (.aI b (off+l*esz) (h-l) esz (kc-l))
  |_,_=>none
 |.slice e,.aK cs len=>match E.ty e,gW len len lo hi with
  |some ei,some (l,h)=>
   if l=h then some .eW
   else some (.aK ((cs.drop (l*ei.size)).take ((h-l)*ei.size)) (h-l))
  |_,_=>none
 |_,_=>none
def jQ(E:Env)(H:Hp)(t:Nat)(p:AV)(lo hi:Option AV):Option AV:=
 match E.ty t with
 |some {cV:=.array n e,..}=>match E.ty e,gW n n lo hi with
  |some ei,some (l,h)=>
   match p with
   |.b9 b off=>match H[b]? with
    |some (.cells st cs)=>if st=.dead∨cs.length<off+n*ei.size∨cs.length=0 then none else
     if l=h then some .eW else some (.aI b (off+l*ei.size) (h-l) ei.size (n-l))
    |_=>none
   |.eX cs off=>if l=h then some .eW else some (.aK ((cs.drop (off+l*ei.size)).take ((h-l)*ei.size)) (h-l))
   |_=>none
  |_,_=>none
 |_=>none
def cF(E:Env)(t:Nat)(x ix:AV):Option AV:=
 match E.ty t,ix with
 |some i,.int _ n=>
  match i.cV with
  |.array len e=>match E.ty e with
   |some ei=>if 0<=n/\n<len then(match x with
    |.b9 b off=>some (.b9 b (off+n.toNat*ei.size))
    |.eX cs off=>some (.eX cs (off+n.toNat*ei.size))
    |.sf g off=>some (.sf g (off+n.toNat*ei.size))
    |_=>none)else none
   |none=>none
  |.slice e=>match E.ty e with
   |some ei=>(match x with
    |.aI b off len esz _=>if esz=ei.size/\0<=n/\n<len then some (.b9 b (off+n.toNat*esz))else none
    |.aK cs len=>if 0<=n/\n<len then some (.eX cs (n.toNat*ei.size))else none
    |_=>none)
   |none=>none
  |_=>none
 |_,_=>none
def pZ(E:Env)(t:Nat)(x ix:AV):Option AV:=
 match E.ty t,ix with
 |some i,.int _ n=>
  match i.cV,x with
  |.array len e,.agg cs=>match E.ty e with
   |some ei=>if 0<=n/\n<len then jq E e cs (n.toNat*ei.size)else none
   |none=>none
  |.string,.str s=>if 0<=n then(s[n.toNat]?).map fun b=>.int .u8 b.toNat else none
  |_,_=>none
 |_,_=>none
def dy(E:Env)(t:Nat)(x:AV)(f:Nat):Option AV:=
 match E.ty t with
 |some {cV:=.struct fields,..}=>match fields[f]? with
  |some fd=>match E.ty fd.type with
   |some fi=>if fi.size=0 then none else(match x with
    |.b9 b off=>some (.b9 b (off+fd.offset))
    |.eX cs off=>some (.eX cs (off+fd.offset))
    |.sf g off=>some (.sf g (off+fd.offset))
    |_=>none)
   |none=>none
  |none=>none
 |_=>none
def GN(E:Env)(t:Nat)(x:AV)(f:Nat):Option AV:=
 match E.ty t,x with
 |some {cV:=.struct fields,..},.agg cs=>match fields[f]? with
  |some fd=>jq E fd.type cs fd.offset
  |none=>none
 |_,_=>none
def IV(E:Env)(src dst:Nat)(x:AV):Option AV:=
 match E.ty src,E.ty dst,x with
 |some _,some {cV:=.int k,..},.int _ n=>some (.int k (aX k n))
 |some _,some {cV:=.string,..},.str s=>some (.str s)
 |_,_,_=>none
def Ct:List AV->Option (List UInt8)
 |[]=>some []
 |.int .u8 n::cs=>(Ct cs).map (UInt8.ofNat n.toNat::·)
 |_=>none
def kJ(H:Hp)(esz:Nat):AV->Option (List AV)
 |.aH|.eW=>some []
 |.aK cs len=>if cs.length=len*esz then some cs else none
 |.aI b off len e _=>if e≠esz then none else match H[b]? with
  |some (.cells st cs)=>if st=.dead∨cs.length<off+len*esz then none else some ((cs.drop off).take (len*esz))
  |_=>none
 |_=>none
def qe:AV->Option Nat
 |.aH|.eW=>some 0
 |.aK _ n=>some n
 |.aI _ _ n _ _=>some n
 |.str s=>some s.length
 |_=>none
def plainKey(E:Env):Nat->Nat->Bool
 |0,_=>false
 |n+1,t=>match E.ty t with
  |some i=>(match i.cV with
   |.int _|.string|.bool=>true
   |.array _ e=>plainKey E n e
   |.struct fs=>i.eS&&fs.toList.all fun f=>plainKey E n f.type
   |_=>false)
  |none=>false
def tn(E:Env)(kt:Nat)(k x:AV):Option Bool:=yJ E 20 kt k x
def KE:Nat->AV->AV->Bool
 |_,.bool a,.bool b=>a==b
 |_,.int k a,.int j b=>k==j&&a==b
 |_,.str a,.str b=>a==b
 |n+1,.agg xs,.agg ys=>xs.length==ys.length&&(xs.zip ys).all fun(x,y)=>KE n x y
 |_,_,_=>false
def vf(eq:AV->AV->Option Bool)(k:AV):List AV->List AV->Nat->Option (Option (Nat×AV))
 |x::xs,v::vs,i=>match eq k x with
  |some true=>some (some (i,v))
  |some false=>vf eq k xs vs (i+1)
  |none=>none
 |[],[],_=>some none
 |_,_,_=>none
def fR(E:Env)(t:Nat):Option AV:=
 match E.ty t with
 |some i=>match i.zero with
  |some cs=>if i.isAgg then some (.agg cs)else(match cs with|[c]=>some c|_=>none)
  |none=>none
 |none=>none
def FJ(H:Hp):AV->Option (List AV×List AV)
 |.jV=>some ([],[])
 |.tO ks vs=>some (ks,vs)
 |.jt b=>match H[b]? with
  |some (.map st ks vs)=>if st=.dead then none else some (ks,vs)
  |_=>none
 |_=>none
def gL(E:Env)(H:Hp)(t:Nat)(m k:AV)(ok:Bool):Option AV:=
 match E.ty t with
 |some {cV:=.map kt et,..}=>match FJ H m with
  |some (ks,vs)=>if !plainKey E 20 kt||tn E kt k k !=some true then none else match vf (tn E kt) k ks vs 0 with
   |some (some (_,v))=>some (if ok then .tuple [v,.bool true]else v)
   |some none=>(fR E et).map fun z=>if ok then .tuple [z,.bool false]else z
   |none=>none
  |none=>none
 |_=>none
def fP(E:Env)(H:Hp)(t:Nat)(m k v:AV):Option (List (Nat×cz)):=
 match E.ty t,m with
 |some {cV:=.map kt _,..},.jt b=>match H[b]? with
  |some (.map .live ks vs)=>if !plainKey E 20 kt then none else match tn E kt k k,vf (tn E kt) k ks vs 0 with
   |some true,some (some (i,_))=>(match ks[i]? with
    |some k0=>if KE 20 k0 k then some [(b,.map .live ks (vs.set i v))]else none
    |none=>none)
   |some true,some none=>some [(b,.map .live (ks++[k]) (vs++[v]))]
   |_,_=>none
  |_=>none
 |_,_=>none
def gO:Nat:=140737488355328
def fM(E:Env)(aL:Nat)(t:Nat)(l c:AV):Option (AV×List (Nat×cz)):=
 match E.ty t,l,c with
 |some {cV:=.slice e,..},.int _ n,.int _ m=>match E.ty e with
  |some ei=>match ei.zero with
   |some z=>
    if 0<=n/\n<=m/\m.toNat*ei.bytes<=gO/\m<=4611686018427387904/\z.length=ei.size/\0<ei.size then
     some (.aI aL 0 n.toNat ei.size m.toNat,[(aL,.cells .live (iE z m.toNat))])
    else none
   |none=>none
  |none=>none
 |_,_,_=>none
def sV(H:Hp)(esz:Nat)(x:AV):Option (List AV):=
 match x with
 |.str b=>if esz=1 then some (b.map fun(c:UInt8)=>AV.int .u8 c.toNat)else none
 |x=>kJ H esz x
def vD(H:Hp)(ei:Bn)(iz:Bool)(x:AV):Option (Nat×List AV):=
 if iz then(match x,ei.zero with
  |.int _ n,some z=>if 0<=n/\n<=4611686018427387904/\n.toNat*ei.bytes<=gO/\z.length=ei.size then some (n.toNat,iE z n.toNat)else none
  |_,_=>none)
 else(match qe x,sV H ei.size x with
  |some n,some xs=>some (n,xs)
  |_,_=>none)
def fQ(E:Env)(H:Hp)(aL:Nat)(iz:Bool)(t:Nat)(s x:AV):Option (AV×List (Nat×cz)):=
 match E.ty t with
 |some {cV:=.slice e,..}=>match E.ty e with
  |some ei=>
   match vD H ei iz x with
   |some (n,xs)=>
    if n=0 then(match s with|.aH|.eW|.aI .. |.aK .. =>some (s,[])|_=>none)else
    if ei.size=0||!xs.all df||ei.zero.isNone then none else
    match s with
    |.aH=>
     if n*ei.bytes<=gO/\n<=4611686018427387904 then some (.aI aL 0 n ei.size n,[(aL,.cells .live xs)])else none
    |.aI b off len esz kc=>match H[b]? with
     |some (.cells .live cs)=>
      if len+n<=kc then(if esz=ei.size/\off+(len+n)*esz<=cs.length then
       some (.aI b off (len+n) esz kc,[(b,.cells .live (cH cs (off+len*esz) xs))])else none)else
      if esz=ei.size/\off+len*esz<=cs.length/\(len+n)*ei.bytes<=gO/\len+n<=4611686018427387904 then
       some (.aI aL 0 (len+n) esz (len+n),[(b,.cells .dead []),(aL,.cells .live ((cs.drop off).take (len*esz)++xs))])
      else none
     |_=>none
    |_=>none
   |none=>none
  |none=>none
 |_=>none
def nI(E:Env)(aL:Nat)(t:Nat)(s x:AV):Option (AV×List (Nat×cz)):=
 match E.ty t,s,x with
 |some {cV:=.slice e,..},.aH,.int _ n=>match E.ty e with
  |some ei=>match ei.zero with
   |some z=>
    if 0<n/\n<=4611686018427387904/\n.toNat*ei.bytes<=gO/\z.length=ei.size/\0<ei.size/\0<ei.bytes then
     some (.aI aL 0 n.toNat ei.size n.toNat,[(aL,.cells .live (iE z n.toNat))])
    else none
   |none=>none
  |none=>none
 |_,_,_=>none
def AG(E:Env)(H:Hp)(t:Nat)(d x:AV):Option (AV×List (Nat×cz)):=
 match E.ty t with
 |some {cV:=.slice e,..}=>match E.ty e with
  |some ei=>
   match qe d,qe x,sV H ei.size x with
   |some dn,some xn,some xs=>
    let n:=min xn dn
    if n=0 then(match d with|.aH|.eW|.aI .. =>some (.int .i64 0,[])|_=>none)else
    match d with
    |.aI b off _ esz _=>match H[b]? with
     |some (.cells .live cs)=>
      if esz=ei.size/\off+n*esz<=cs.length/\xs.all df then
       some (.int .i64 n,[(b,.cells .live (cH cs off (xs.take (n*esz))))])
      else none
     |_=>none
    |_=>none
   |_,_,_=>none
  |none=>none
 |_=>none
def rS(E:Env)(H:Hp)(t:Nat)(x:AV):Option AV:=
 match E.ty t,x with
 |some {cV:=.string,..},.str s=>some (.int .i64 s.length)
 |some {cV:=.array n _,..},_=>some (.int .i64 n)
 |some {cV:=.slice _,..},.aH=>some (.int .i64 0)
 |some {cV:=.slice _,..},.eW=>some (.int .i64 0)
 |some {cV:=.slice _,..},.aK _ n=>some (.int .i64 n)
 |some {cV:=.slice _,..},.aI _ _ n _ _=>some (.int .i64 n)
 |some {cV:=.map _ _,..},m=>(FJ H m).map fun(ks,_)=>.int .i64 ks.length
 |_,_=>none
def Fq:AV->AV->Option AV
 |.int k x,.int k' y=>if k=k' then some (.int k (if y>x then y else x))else none
 |_,_=>none
def SO:AV->AV->Option AV
 |.int k x,.int k' y=>if k=k' then some (.int k (if y<x then y else x))else none
 |_,_=>none
def wX(f:AV->AV->Option AV)(x:AV):List AV->Option AV
 |[]=>some x
 |y::ys=>match f x y with
  |some z=>wX f z ys
  |none=>none
def aV(E:Env)(H:Hp)(aL:Nat)(b:Builtin)(eO:List Nat)(args:List AV):Option (AV×List (Nat×cz)):=
 match b,eO,args with
 |.append,t::u::_,s::x::_=>(match E.ty u with
  |some {cV:=.int _,..}=>nI E aL t s x
  |some _=>fQ E H aL false t s x
  |none=>none)
 |.copy,t::_,d::x::_=>AG E H t d x
 |.cap,t::_,.aH::_=>(match E.ty t with
  |some {cV:=.slice _,..}=>some (.int .i64 0,[])
  |_=>none)
 |.len,t::_,x::_=>(rS E H t x).map fun v=>(v,[])
 |.max,_,x::xs=>(wX Fq x xs).map fun v=>(v,[])
 |.min,_,x::xs=>(wX SO x xs).map fun v=>(v,[])
 |_,_,_=>none
inductive Cls where
 |n|r|s|w
 deriving DecidableEq,Repr
def cu(E:Env)(o:Oper):Bool:=
 match o.op with
 |.alloc _|.box .. |.buildSlice .. |.makeMap .. |.makeSlice .. |.range .. =>true
 |.convert s d _=>(match E.ty s,E.ty d with
  |some {cV:=.string,..},some {cV:=.slice _,..}=>true
  |_,_=>false)
 |.call c=>(match c.callee with
  |.builtin .append=>true
  |_=>false)
 |_=>false
def ka(E:Env)(o:Oper):Cls:=
 match o.op with
 |.move _|.assign _|.pick .. |.build .. |.nilCheck _|.binOp .. |.unOp .. |.makeInterface .. |.makeFunc ..
 |.fieldAddr .. |.field .. |.indexAddr .. |.index .. |.extract .. |.sliceToArrayPointer .. =>.n
 |.load .. |.lookup .. =>.r
 |.slice t _ _ _ _=>(match E.ty t with
  |some {cV:=.array ..,..}=>.r
  |_=>.n)
 |.alloc _|.box .. |.buildSlice .. |.makeMap .. |.makeSlice .. |.range .. |.next .. |.store .. |.mapUpdate .. |.insert .. =>.s
 |.convert s d _=>(match E.ty s,E.ty d with
  |some {cV:=.string,..},some {cV:=.slice _,..}=>.s
  |_,_=>.r)
 |.call c=>(match c.callee with
  |.builtin .len=>.r
  |.builtin .max|.builtin .min|.builtin .cap=>.n
  |.builtin .copy|.builtin .append=>.s
  |.value (.func f)=>(match E.fn f with
   |some {pure:=false,fL:=false,..}=>.w
   |_=>.r)
  |_=>.w)
 |_=>.w
def Io(ops:Array Oper)(j:Nat):Nat->Nat->Bool
 |0,_=>false
 |n+1,i=>match ops[i]? with
  |some o=>o.after.any fun e=>Region.binds .any e&&(e.on==j||(e.on<i&&Io ops j n e.on))
  |none=>false
def WD(E:Env)(ps:List (Nat×Nat))(j i:Nat)(oj oi:Oper):Bool:=
 match ka E oj,ka E oi with
 |.n,_|_,.n|.r,.r=>true
 |.w,_|_,.w=>false
 |_,_=>ps.contains (j,i)
def Ah(E:Env)(ps:List (Nat×Nat))(ops:Array Oper):Bool:=
 (List.range ops.size).all fun i=>match ops[i]? with
  |some oi=>(oi.after.all fun e=>!Region.binds .any e||e.on<i)&&(List.range i).all fun j=>
    match ops[j]? with
    |some oj=>(oi.apart ops oj&&WD E ps j i oj oi)||Io ops j ops.size i
    |none=>true
  |none=>true
def flat:Code->Bool
 |.rangeFunc .. =>false
 |.seq a b=>flat a&&flat b
 |.cond _ a b=>flat a&&flat b
 |.block _ a=>flat a
 |.loop a=>flat a
 |.scope a=>flat a
 |_=>true
def codeOk(E:Env):Code->Bool
 |.region id ops draw=>!draw||Ah E (E.pairs id ops.size) ops
 |.seq a b=>codeOk E a&&codeOk E b
 |.cond _ a b=>codeOk E a&&codeOk E b
 |.block _ a=>codeOk E a
 |.loop a=>codeOk E a
 |.rangeFunc _ _ a b=>codeOk E a&&codeOk E b&&flat a&&flat b
 |.scope a=>codeOk E a
 |_=>true
abbrev Pc:=Nat->List AV->Option AV
abbrev Ic:=Nat->List AV->Hp->Option (AV×Hp)
def cn(tmps:List AV):Operand->Option AV
 |.tmp t=>some (tmps[t]?.getD aZ)
 |.const v=>ays v
 |.func f=>some (.func f [] [])
 |.global g=>some (.sf g 0)
def oa(tmps:List AV):List Operand->Option (List AV)
 |[]=>some []
 |x::xs=>match cn tmps x with
  |none=>none
  |some v=>match oa tmps xs with
   |none=>none
   |some vs=>some (v::vs)
def xT(tmps:List AV):List (Nat×Operand)->Option (List (Nat×AV))
 |[]=>some []
 |(i,x)::xs=>match cn tmps x with
  |none=>none
  |some v=>match xT tmps xs with
   |none=>none
   |some vs=>some ((i,v)::vs)
def jd(tmps:List AV):Option Operand->Option (Option AV)
 |none=>some none
 |some x=>(cn tmps x).map some
def pA(E:Env)(pc:Pc)(ic yc:Ic)(dr:Bool)(H:Hp)(fv:AV)(args:List AV):Option (AV×cE):=
 match fv with
 |.yield l=>(yc l args H).map fun(v,h)=>(v,.Ee h)
 |.func f first cap=>
  let all:=first++args++cap
  let ajD:Bool:=match E.fn f with
   |some {pure:=false,fL:=d,..}=>d&&dr
   |_=>true
  if ajD then
   match bW H all with
   |some (as,bs)=>(pc f as).map fun v=>(v,if bR v then .looks bs else .marks bs)
   |none=>none
  else(ic f all H).map fun(v,h)=>(v,.Ee h)
 |_=>none
def bI:Operand->Bool
 |.const _=>true
 |_=>false
def rT:Operand->Bool
 |.func _=>true
 |_=>false
def eL(E:Env)(pc:Pc)(ic yc:Ic)(dr:Bool)(ts:List AV)(H:Hp)(aL:Nat)(o:Oper):Option (AV×cE):=
 let v (r:Option AV):Option (AV×cE):=r.map fun x=>(x,.bU [])
 let u (r:Option (List (Nat×cz))):Option (AV×cE):=r.map fun l=>(aZ,.bU l)
 let b (r:Option (AV×List (Nat×cz))):Option (AV×cE):=r.map fun(x,l)=>(x,.bU l)
 match o.op with
 |.move x|.assign x=>v (cn ts x)
 |.pick c a b=>(match cn ts c with
  |some (.bool t)=>v (cn ts (if t then a else b))
  |_=>none)
 |.alloc t=>b ((fR E t).map fun z=>(.b9 aL 0,[(aL,.cells .live z.cells)]))
 |.box _ x=>b ((cn ts x).map fun z=>(.b9 aL 0,[(aL,.cells .live z.cells)]))
 |.build t ps=>(match gX E t,(E.ty t).bind (·.zero),xT ts ps.toList with
  |some pl,some z,some vs=>v ((gV pl z vs).map .agg)
  |_,_,_=>none)
 |.buildSlice t len ps=>(match E.ty t with
  |some {cV:=.slice e,..}=>(match E.ty e with
   |some ei=>(match ei.zero,xT ts ps.toList with
    |some z,some vs=>if z.length=ei.size/\0<ei.size/\len*ei.size<=16777216 then
      b ((gV (fun i=>some (i*ei.size,ei.size)) (iE z len) vs).map fun cs=>
       (.aI aL 0 len ei.size len,[(aL,.cells .live cs)]))
     else none
    |_,_=>none)
   |none=>none)
  |_=>none)
 |.load t a=>(match cn ts a with|some p=>v (gT E H t p)|none=>none)
 |.store t a x=>(match cn ts a,cn ts x with|some p,some z=>u (iO E H t p z)|_,_=>none)
 |.nilCheck x=>(match cn ts x with
  |some (.b9 b off)=>v (some (.b9 b off))
  |some (.eX cs off)=>v (some (.eX cs off))
  |some (.sf g off)=>v (some (.sf g off))
  |some (.func f a b)=>v (some (.func f a b))
  |some (.yield l)=>v (some (.yield l))
  |_=>none)
 |.binOp op t x y _=>(match cn ts x,cn ts y with|some a,some b=>v (dC E (bI x||bI y) op t a b)|_,_=>none)
 |.unOp op _ x=>(match cn ts x with|some a=>v (unE op a)|none=>none)
 |.convert s d x=>(match cn ts x,E.ty s,E.ty d with
  |some (.str z),some {cV:=.string,..},some {cV:=.slice e,..}=>(match E.ty e with
   |some {cV:=.int .u8,size:=1,..}=>b (some (.aI aL 0 z.length 1 z.length,[(aL,.cells .live (z.map fun c=>.int .u8 c.toNat))]))
   |_=>none)
  |some x,some {cV:=.slice e,..},some {cV:=.string,..}=>(match E.ty e,kJ H 1 x with
   |some {cV:=.int .u8,size:=1,..},some cs=>v ((Ct cs).map .str)
   |_,_=>none)
  |some x,_,_=>v (IV E s d x)
  |_,_,_=>none)
 |.makeInterface t x=>(match E.ty t with
  |some i=>(match i.cV with
   |.interface _=>none
   |_=>v ((cn ts x).map (.iface t)))
  |none=>none)
 |.makeFunc (.func f) first cap=>(match oa ts first.toList,oa ts cap.toList with
  |some a,some c=>v (some (.func f a c))
  |_,_=>none)
 |.makeMap t r=>(match E.ty t,jd ts r with
  |some {cV:=.map _ _,..},some none=>b (some (.jt aL,[(aL,.map .live [] [])]))
  |some {cV:=.map _ _,..},some (some (.int _ _))=>b (some (.jt aL,[(aL,.map .live [] [])]))
  |_,_=>none)
 |.makeSlice t l c=>(match cn ts l,cn ts c with|some x,some y=>b (fM E aL t x y)|_,_=>none)
 |.slice t x lo hi mx=>(match cn ts x,jd ts lo,jd ts hi,mx with
  |some a,some l,some h,none=>(match E.ty t with
   |some {cV:=.array ..,..}=>v (jQ E H t a l h)
   |_=>v (iS E t a l h))
  |_,_,_,_=>none)
 |.fieldAddr t x f=>(match cn ts x with|some a=>v (dy E t a f)|none=>none)
 |.field t x f=>(match cn ts x with|some a=>v (GN E t a f)|none=>none)
 |.indexAddr t x i=>(match cn ts x,cn ts i with|some a,some b=>v (cF E t a b)|_,_=>none)
 |.index t x i=>(match cn ts x,cn ts i with|some a,some b=>v (pZ E t a b)|_,_=>none)
 |.lookup t x i ok=>(match cn ts x,cn ts i with|some a,some b=>v (gL E H t a b ok)|_,_=>none)
 |.mapUpdate t m k x|.insert t m k x=>(match cn ts m,cn ts k,cn ts x with
  |some a,some b,some c=>u (fP E H t a b c)
  |_,_,_=>none)
 |.sliceToArrayPointer t x=>(match E.ty t,cn ts x with
  |some {cV:=.array n _,..},some (.aI b off len _ _)=>if len<n then none else v (some (.b9 b off))
  |some {cV:=.array n _,..},some (.aK cs len)=>if len<n then none else v (some (.eX cs 0))
  |_,_=>none)
 |.range t x=>(match E.ty t,cn ts x with
  |some {cV:=.string,..},some (.str z)=>b (some (.b9 aL 0,[(aL,.kT z 0)]))
  |_,_=>none)
 |.next it true=>(match cn ts it with
  |some (.b9 i 0)=>(match H[i]? with
   |some (.kT z pos)=>if pos<z.length then
     (let d:=Utf8.decode ⟨z.toArray⟩ pos
     b (some (.tuple [.bool true,.int .i64 pos,.int .i32 d.1],[(i,.kT z (pos+d.2))])))
    else v (some (.tuple [.bool false]))
   |_=>none)
  |_=>none)
 |.extract t i=>(match cn ts t with
  |some (.tuple vs)=>v vs[i]?
  |_=>none)
 |.call c=>(match c.callee with
  |.builtin bi=>(match oa ts c.args.toList with
   |some as=>b (aV E H aL bi c.argTypes.toList as)
   |none=>none)
  |.value f=>(match cn ts f,oa ts c.args.toList with
   |some fv,some as=>pA E pc ic yc (dr&&rT f) H fv as
   |_,_=>none)
  |_=>none)
 |_=>none
def bK(dst:Option Nat)(v:AV)(ts:List AV):List AV:=
 match dst with
 |some d=>ts.set d v
 |none=>ts
def b6(ops:List Oper)(ts:List AV)(o:Oper):Bool:=
 match o.guard with
 |none=>true
 |some (j,want)=>match(ops[j]?).bind (·.dst)with
  |none=>false
  |some d=>match ts[d]? with
   |some (.bool b)=>b==want
   |_=>false
def cK(E:Env)(pc:Pc)(ic yc:Ic)(dr:Bool)(ops:List Oper)(aL:Nat)(o:Oper)(ts:List AV)(H:Hp):Option (List AV×cE):=
 if b6 ops ts o then
  match eL E pc ic yc dr ts H aL o with
  |some (v,e)=>some (bK o.dst v ts,e)
  |none=>none
 else some (bK o.dst aZ ts,.bU [])
def Cq(E:Env)(pc:Pc)(ic yc:Ic)(ops:List Oper):List Oper->List AV->Hp->Option (List AV×Hp)
 |[],ts,H=>some (ts,H)
 |o::rest,ts,H=>match cK E pc ic yc false ops H.length o ts H with
  |some (dx,e)=>Cq E pc ic yc ops rest dx (e.app H)
  |none=>none
def fS:AV->List Nat
 |.b9 b _|.aI b _ _ _ _|.jt b=>[b]
 |_=>[]
def nh(ts:List AV)(o:Oper):List Nat:=
 o.op.operands.toList.flatMap fun x=>match cn ts x with
  |some v=>fS v
  |none=>[]
def bH(E:Env)(ts:List AV)(o:Oper)(e:cE):List Nat×List Nat:=
 match ka E o with
 |.n=>([],[])
 |_=>match e with
  |.bU l=>(nh ts o,l.map (·.1))
  |.marks l=>(l,[])
  |.looks l=>(l,[])
  |.Ee _=>([],[])
def eP:cz:=.cells .dead [aZ]
def mD:Option cz->Bool
 |some (.cells .dead [.tuple []])=>true
 |_=>false
def s9(E:Env)(pc:Pc)(ic yc:Ic)(ops:List Oper):List Oper->Nat->List AV->Hp->Option (List AV×Hp×List (List Nat×List Nat))
 |[],_,ts,H=>some (ts,H,[])
 |o::rest,aL,ts,H=>if cu E o&&!mD H[aL]? then none else
  match cK E pc ic yc true ops aL o ts H with
  |some (dx,e)=>match s9 E pc ic yc ops rest (if cu E o then aL+1 else aL) dx (e.app H)with
   |some (t,h,l)=>some (t,h,bH E ts o e::l)
   |none=>none
  |none=>none
def zN(a b:List Nat):Bool:=a.all fun x=>!b.contains x
def ur(l:List (List Nat×List Nat))(p:Nat×Nat):Bool:=
 match l[p.1]?,l[p.2]? with
 |some (r1,w1),some (r2,w2)=>zN w1 r2&&zN w1 w2&&zN r1 w2
 |_,_=>true
def Br(E:Env)(pc:Pc)(ic yc:Ic)(id:Nat)(ops:List Oper)(ts:List AV)(H:Hp):Option (List AV×Hp):=
 match s9 E pc ic yc ops ops H.length ts (H++aK3 (ops.countP (cu E)) eP)with
 |some (t,h,l)=>if(E.pairs id ops.length).all (ur l)then some (t,h)else none
 |none=>none
inductive Ex where
 |normal
 |exit (id:Nat)
 |ret
 deriving DecidableEq
def iW(H:Hp)(E:Env)(ts:List AV):List ResultVar->Option (List AV)
 |[]=>some []
 |.tmp t::rs=>(iW H E ts rs).map fun vs=>ts[t]?.getD aZ::vs
 |.cell a t::rs=>match gT E H t (ts[a]?.getD aZ),iW H E ts rs with
  |some v,some vs=>some (v::vs)
  |_,_=>none
def kU:List AV->AV
 |[v]=>v
 |vs=>.tuple vs
abbrev Cd:=Code->List AV->Hp->Option (Ex×List AV×Hp)
def pK(E:Env)(rec:Cd):Pc:=fun f args=>
 match E.ov f args with
 |some r=>some r
 |none=>match E.fn f with
  |some fi=>if !(fi.pure||fi.fL)then none else
   match rec fi.code (args++aK3 (fi.ntmps-args.length) aZ) []with
   |some (.exit _,_,_)=>none
   |some (_,ts,H)=>match iW H E ts fi.results with
    |some vs=>match bW H [kU vs]with
     |some ([v],_)=>some v
     |_=>none
    |none=>none
   |none=>none
  |none=>none
def vh(E:Env)(rec:Cd):Ic:=fun f args H=>
 match E.fn f with
 |some fi=>
  match rec fi.code (args++aK3 (fi.ntmps-args.length) aZ) H with
  |some (.exit _,_,_)=>none
  |some (_,ts,H')=>(iW H' E ts fi.results).map fun vs=>(kU vs,H')
  |none=>none
 |none=>none
def ue(E:Env)(rec:Cd):Ic:=fun f args H=>
 match E.sj f args H with
 |some r=>some r
 |none=>vh E rec f args H
def Ms(ts:List AV):List Nat->List AV->Option (List AV)
 |[],[]=>some ts
 |p::ps,a::as=>Ms (ts.set p a) ps as
 |_,_=>none
def yI(rec:Cd):Ic:=fun l args H=>
 match H[l]? with
 |some (.loop .ready _ ts ps assign body)=>match Ms ts ps args with
  |some dx=>match rec assign dx H with
   |some (.normal,t1,H1)=>match H1[l]? with
    |some (.loop .ready nV JA ps2 as2 b2)=>
     match rec body t1 (H1.set l (.loop .busy nV JA ps2 as2 b2))with
     |some (e,_,H2)=>match H2[l]? with
      |some (.loop _ _ Oq Ou OC b3)=>match e with
       |.normal=>some (.bool true,H2.set l (.loop .ready none Oq Ou OC b3))
       |.ret=>some (.bool false,H2.set l (.loop .done (some .ret) Oq Ou OC b3))
       |.exit id=>some (.bool false,H2.set l (.loop .done (some (.exit id)) Oq Ou OC b3))
      |_=>none
     |none=>none
    |_=>none
   |_=>none
  |none=>none
 |_=>none
def dI(E:Env)(rec:Cd):Cd:=fun c ts H=>
 match c with
 |.skip|.label _=>some (.normal,ts,H)
 |.region id ops draw=>
  (if draw then Br E (pK E rec) (ue E rec) (yI rec) id ops.toList ts H
   else Cq E (pK E rec) (ue E rec) (yI rec) ops.toList ops.toList ts H).map fun(t,h)=>(.normal,t,h)
 |.seq a b=>match rec a ts H with
  |some (.normal,dx,H')=>rec b dx H'
  |r=>r
 |.cond c a b=>match cn ts c with
  |some (.bool t)=>rec (if t then a else b) ts H
  |_=>none
 |.block id body=>match rec body ts H with
  |some (.exit BB,dx,H')=>if BB=id then some (.normal,dx,H')else some (.exit BB,dx,H')
  |r=>r
 |.loop body=>match rec body ts H with
  |some (.normal,dx,H')=>rec (.loop body) dx H'
  |r=>r
 |.exit id=>some (.exit id,ts,H)
 |.ret=>some (.ret,ts,H)
 |.rangeFunc g ps assign body=>match cn ts g with
  |some (.func f first cap)=>
   match vh E rec f (first++[.yield H.length]++cap) (H++[.loop .ready none ts ps.toList assign body])with
   |some (_,H2)=>match H2[H.length]? with
    |some (.loop st nV Oq Ou OC b3)=>
     if st=.busy then none else
     match nV with
     |none=>some (.normal,ts,H2.set H.length (.loop .exhausted nV Oq Ou OC b3))
     |some c=>rec c ts (H2.set H.length (.loop .exhausted nV Oq Ou OC b3))
    |_=>none
   |none=>none
  |_=>none
 |_=>none
def dK(E:Env):Nat->Cd
 |0=>fun _ _ _=>none
 |n+1=>dI E (dK E n)
def call(E:Env)(n:Nat):Pc:=pK E (dK E n)
end Dv
namespace Dv
open Go Go.RowKit
abbrev eg:=Nat->Option (Nat×Nat)
def cS:eg:=fun _=>none
mutual
def R(ι:eg)(w:World)(L:Nat->Prop):AV->Value->Prop
 |.bool b,v=>v=.bool b
 |.int k n,v=>v=.int k n
 |.str s,v=>v=.string ⟨s.toArray⟩
 |.jF,v=>v=.pointer none
 |.b9 b off,v=>∃cb co,ι b=some (cb,co)/\v=.pointer (some ⟨cb,co+off,none⟩)
 |.eX cs off,v=>∃cb o c e f,v=.pointer (some ⟨cb,o+off,none⟩)/\w.heap[cb]?=some (.cells c e f)/\¬L cb/\kN cS w L c o cs
 |.sf g off,v=>v=.pointer (some ⟨g,off,none⟩)
 |.aH,v=>v=.slice none 0 0
 |.eW,v=>∃a cap,v=.slice (some a) 0 cap
 |.aI b off len esz kc,v=>∃cb co cap c e f,ι b=some (cb,co)/\v=.slice (some ⟨cb,co+off,none⟩) len cap/\len<=kc/\kc<=cap/\
   w.heap[cb]?=some (.cells c e f)/\co+off+cap*esz<=c.size
 |.aK cs len,v=>∃cb o cap c e f,v=.slice (some ⟨cb,o,none⟩) len cap/\len<=cap/\w.heap[cb]?=some (.cells c e f)/\¬L cb/\kN cS w L c o cs
 |.jV,v=>v=.map none
 |.jt b,v=>∃cb co,ι b=some (cb,co)/\v=.map (some cb)
 |.tO ks vs,v=>∃cb es clock,v=.map (some cb)/\w.heap[cb]?=some (.map es clock)/\¬L cb/\Rs cS w L ks (es.toList.map (·.key))/\Rs cS w L vs (es.toList.map (·.val))
 |.jk,v=>v=.nilFunc
 |.func f first cap,v=>∃a c,v=.func (.func f) a c/\Rs ι w L first a.toList/\Rs ι w L cap c.toList
 |.nilIface,v=>v=.nilIface
 |.iface t x,v=>∃y,v=.iface t y/\R ι w L x y
 |.agg cs,v=>∃vs,v=.agg vs/\Rs ι w L cs vs.toList
 |.tuple cs,v=>∃vs,v=.tuple vs/\Rs ι w L cs vs.toList
 |.yield l,v=>∃cb co,ι l=some (cb,co)/\v=.func (.yield cb) #[] #[]
def Rs(ι:eg)(w:World)(L:Nat->Prop):List AV->List Value->Prop
 |[],vs=>vs=[]
 |x::xs,vs=>∃y ys,vs=y::ys/\R ι w L x y/\Rs ι w L xs ys
def kN(ι:eg)(w:World)(L:Nat->Prop)(c:Array Value):Nat->List AV->Prop
 |_,[]=>True
 |o,x::xs=>(∃y,c[o]?=some y/\R ι w L x y)/\kN ι w L c (o+1) xs
end
structure Ext(w:World)(L:Nat->Prop)(w':World)(L':Nat->Prop):Prop where
 size:w.heap.size<=w'.heap.size
 old:∀c,c<w.heap.size->¬L c->w'.heap[c]?=w.heap[c]?/\¬L' c
 shape:∀(c:Nat) (cs:Array Value) (e:TypeId) (f:Nat×Nat),w.heap[c]?=some (Obj.cells cs e f)->∃(vK:Array Value) (f':Nat×Nat),w'.heap[c]?=some (Obj.cells vK e f')/\vK.size=cs.size
theorem Ext.refl(w:World)(L:Nat->Prop):Ext w L w L:=⟨aKR _,fun _ _ h=>⟨rfl,h⟩,fun _ cs _ f h=>⟨cs,f,h,rfl⟩⟩
theorem Ext.trans{w w' w'':World}{L L' L'':Nat->Prop}(h:Ext w L w' L')(k:Ext w' L' w'' L''):Ext w L w'' L'':=
 ⟨Nat.le_trans h.size k.size,
  fun c hc hl=>let⟨h1,h2⟩:=h.old c hc hl;let⟨k1,k2⟩:=k.old c (Nat.lt_of_lt_of_le hc h.size) h2;⟨k1.trans h1,k2⟩,
  fun c cs e f sd=>let⟨vK,f',h1,h2⟩:=h.shape c cs e f sd;let⟨aju,f'',k1,k2⟩:=k.shape c vK e f' h1;⟨aju,f'',k1,k2.trans h2⟩⟩
theorem ie{w:World}{c:Nat}{o:Obj}(h:w.heap[c]?=some o):c<w.heap.size:=by
 rcases Nat.lt_or_ge c w.heap.size with h'|h'
 ·exact h'
 ·simp[Array.getElem?_eq_none h']at h
def eg.le(ι ι':eg):Prop:=∀b p,ι b=some p->ι' b=some p
theorem eg.le_refl(ι:eg):ι.le ι:=fun _ _ h=>h
theorem eg.le_trans{a b c:eg}(h:a.le b)(k:b.le c):a.le c:=fun x p hx=>k x p (h x p hx)
theorem tP(ι:eg):cS.le ι:=fun _ _ h=>by cases h
theorem Ext.keep{w w':World}{L L':Nat->Prop}(h:Ext w L w' L'){c:Nat}{o:Obj}(hc:w.heap[c]?=some o)(hl:¬L c):w'.heap[c]?=some o/\¬L' c:=by
 have:=h.old c (ie hc) hl
 exact⟨this.1.trans hc,this.2⟩
mutual
theorem R.ext{w w':World}{L L':Nat->Prop}(he:Ext w L w' L'):∀(av:AV) (ι ι':eg) (v:Value),ι.le ι'->R ι w L av v->R ι' w' L' av v
 |.bool _,_,_,_,_,h=>by simpa[R]using h
 |.int _ _,_,_,_,_,h=>by simpa[R]using h
 |.str _,_,_,_,_,h=>by simpa[R]using h
 |.jF,_,_,_,_,h=>by simpa[R]using h
 |.b9 _ _,_,_,_,hi,h=>by
  simp only[R]at h⊢;obtain⟨cb,co,h1,h2⟩:=h;exact⟨cb,co,hi _ _ h1,h2⟩
 |.eX cs _,_,_,_,_,h=>by
  simp only[R]at h⊢;obtain⟨cb,o,c,e,f,h1,h2,h3,h4⟩:=h
  have:=he.keep h2 h3
  exact⟨cb,o,c,e,f,h1,this.1,this.2,kN.ext he cs cS cS c o (eg.le_refl _) h4⟩
 |.sf _ _,_,_,_,_,h=>by simpa[R]using h
 |.aH,_,_,_,_,h=>by simpa[R]using h
 |.eW,_,_,_,_,h=>by simpa[R]using h
 |.aI _ _ _ _ _,_,_,_,hi,h=>by
  simp only[R]at h⊢;obtain⟨cb,co,cap,c,e,f,h1,h2,h3,h4,h5,h6⟩:=h;obtain⟨c',f',g1,g2⟩:=he.shape cb c e f h5;exact⟨cb,co,cap,c',e,f',hi _ _ h1,h2,h3,h4,g1,by omega⟩
 |.aK cs _,_,_,_,_,h=>by
  simp only[R]at h⊢;obtain⟨cb,o,cap,c,e,f,h1,h2,h3,h4,h5⟩:=h
  have:=he.keep h3 h4
  exact⟨cb,o,cap,c,e,f,h1,h2,this.1,this.2,kN.ext he cs cS cS c o (eg.le_refl _) h5⟩
 |.jV,_,_,_,_,h=>by simpa[R]using h
 |.jt _,_,_,_,hi,h=>by
  simp only[R]at h⊢;obtain⟨cb,co,h1,h2⟩:=h;exact⟨cb,co,hi _ _ h1,h2⟩
 |.tO ks vs,_,_,_,_,h=>by
  simp only[R]at h⊢;obtain⟨cb,es,clock,h1,h2,h3,h4,h5⟩:=h
  have:=he.keep h2 h3
  exact⟨cb,es,clock,h1,this.1,this.2,Rs.ext he ks cS cS _ (eg.le_refl _) h4,Rs.ext he vs cS cS _ (eg.le_refl _) h5⟩
 |.jk,_,_,_,_,h=>by simpa[R]using h
 |.func _ a b,ι,ι',_,hi,h=>by
  simp only[R]at h⊢;obtain⟨x,y,h1,h2,h3⟩:=h;exact⟨x,y,h1,Rs.ext he a ι ι' _ hi h2,Rs.ext he b ι ι' _ hi h3⟩
 |.nilIface,_,_,_,_,h=>by simpa[R]using h
 |.iface _ x,ι,ι',_,hi,h=>by
  simp only[R]at h⊢;obtain⟨y,h1,h2⟩:=h;exact⟨y,h1,R.ext he x ι ι' y hi h2⟩
 |.agg cs,ι,ι',_,hi,h=>by
  simp only[R]at h⊢;obtain⟨y,h1,h2⟩:=h;exact⟨y,h1,Rs.ext he cs ι ι' _ hi h2⟩
 |.tuple cs,ι,ι',_,hi,h=>by
  simp only[R]at h⊢;obtain⟨y,h1,h2⟩:=h;exact⟨y,h1,Rs.ext he cs ι ι' _ hi h2⟩
 |.yield _,_,_,_,hi,h=>by
  simp only[R]at h⊢;obtain⟨cb,co,h1,h2⟩:=h;exact⟨cb,co,hi _ _ h1,h2⟩
theorem Rs.ext{w w':World}{L L':Nat->Prop}(he:Ext w L w' L'):∀(xs:List AV) (ι ι':eg) (vs:List Value),ι.le ι'->Rs ι w L xs vs->Rs ι' w' L' xs vs
 |[],_,_,_,_,h=>by simpa[Rs]using h
 |x::xs,ι,ι',_,hi,h=>by
  simp only[Rs]at h⊢;obtain⟨y,ys,h1,h2,h3⟩:=h;exact⟨y,ys,h1,R.ext he x ι ι' y hi h2,Rs.ext he xs ι ι' ys hi h3⟩
theorem kN.ext{w w':World}{L L':Nat->Prop}(he:Ext w L w' L'):∀(xs:List AV) (ι ι':eg) (c:Array Value) (o:Nat),ι.le ι'->kN ι w L c o xs->kN ι' w' L' c o xs
 |[],_,_,_,_,_,_=>by simp[kN]
 |x::xs,ι,ι',c,o,hi,h=>by
  simp only[kN]at h⊢;obtain⟨⟨y,h1,h2⟩,h3⟩:=h;exact⟨⟨y,h1,R.ext he x ι ι' y hi h2⟩,kN.ext he xs ι ι' c (o+1) hi h3⟩
end
section
variable{ι:eg}{w:World}{L:Nat->Prop}
theorem Rs.length:∀{xs:List AV} {vs:List Value},Rs ι w L xs vs->vs.length=xs.length
 |[],_,h=>by simp only[Rs]at h;simp[h]
 |_::xs,_,h=>by
  simp only[Rs]at h;obtain⟨y,ys,rfl,_,h3⟩:=h;simp[Rs.length h3]
theorem Rs.get:∀{xs:List AV} {vs:List Value} (_:Rs ι w L xs vs) (i:Nat) (x:AV),xs[i]?=some x->∃v,vs[i]?=some v/\R ι w L x v
 |[],_,_,i,x,hx=>by simp at hx
 |a::xs,_,h,i,x,hx=>by
  simp only[Rs]at h;obtain⟨y,ys,rfl,h2,h3⟩:=h;cases i with
  |zero=>simp at hx;subst hx;exact⟨y,by simp,h2⟩
  |succ i=>simp at hx;simpa using Rs.get h3 i x hx
theorem Rs.jW:∀{xs:List AV} {vs:List Value},vs.length=xs.length->(∀(i:Nat) (x:AV),xs[i]?=some x->∃v,vs[i]?=some v/\R ι w L x v)->Rs ι w L xs vs
 |[],vs,hl,_=>by simp only[Rs];simpa using hl
 |a::xs,[],hl,_=>by simp at hl
 |a::xs,v::vs,hl,h=>by
  simp only[Rs];refine⟨v,vs,rfl,?_,Rs.jW (by simpa using hl) fun i x hx=>?_⟩
  ·obtain⟨u,h1,h2⟩:=h 0 a (by simp);simp at h1;subst h1;exact h2
  ·simpa using h (i+1) x (by simpa using hx)
theorem Rs.append{xs ys:List AV}{us vs:List Value}(h:Rs ι w L xs us)(k:Rs ι w L ys vs):Rs ι w L (xs++ys) (us++vs):=by
 have l1:=h.length;refine Rs.jW (by simp[l1,k.length]) fun i x hx=>?_
 rw[aK5]at hx⊢;by_cases hi:i<xs.length
 ·rw[if_pos hi]at hx;rw[if_pos (by omega)];exact h.get i x hx
 ·rw[if_neg hi]at hx;rw[if_neg (by omega),l1];exact k.get _ x hx
theorem Rs.take{xs:List AV}{vs:List Value}(h:Rs ι w L xs vs)(n:Nat):Rs ι w L (xs.take n) (vs.take n):=by
 refine Rs.jW (by simp[h.length]) fun i x hx=>?_
 rw[aK6]at hx⊢;split at hx
 ·rename_i hi;rw[if_pos hi];exact h.get i x hx
 ·cases hx
theorem Rs.drop{xs:List AV}{vs:List Value}(h:Rs ι w L xs vs)(n:Nat):Rs ι w L (xs.drop n) (vs.drop n):=by
 refine Rs.jW (by simp[h.length]) fun i x hx=>?_
 rw[aK7]at hx⊢;exact h.get _ x hx
theorem Rs.set{xs:List AV}{vs:List Value}(h:Rs ι w L xs vs)(n:Nat){x:AV}{v:Value}(hx:R ι w L x v):Rs ι w L (xs.set n x) (vs.set n v):=by
 refine Rs.jW (by simp[h.length]) fun i y hy=>?_
 rw[aKQ]at hy⊢;split at hy
 ·rename_i hni;subst hni;split at hy
  ·rename_i iH;simp at hy;subst hy
   exact⟨v,by simp[h.length,iH],hx⟩
  ·cases hy
 ·rename_i hni;rw[if_neg hni];exact h.get i y hy
theorem Rs.getD{xs:List AV}{vs:List Value}(h:Rs ι w L xs vs)(i:Nat):R ι w L (xs[i]?.getD aZ) (vs[i]?.getD undef):=by
 cases hx:xs[i]? with
 |some x=>obtain⟨v,h1,h2⟩:=h.get i x hx;simpa[h1]using h2
 |none=>
  have:vs[i]?=none:=by rw[List.getElem?_eq_none_iff]at hx⊢;rw[h.length];exact hx
  rw[this];simp only[Option.getD_none,aZ,R];exact⟨#[],rfl,by simp[Rs]⟩
theorem kN.get{c:Array Value}:∀{xs:List AV} {o:Nat} (_:kN ι w L c o xs) (i:Nat) (x:AV),xs[i]?=some x->∃v,c[o+i]?=some v/\R ι w L x v
 |[],_,_,i,x,hx=>by simp at hx
 |a::xs,o,h,i,x,hx=>by
  simp only[kN]at h;obtain⟨⟨y,h1,h2⟩,h3⟩:=h;cases i with
  |zero=>simp at hx;subst hx;exact⟨y,by simpa using h1,h2⟩
  |succ i=>
   simp at hx;obtain⟨v,g1,g2⟩:=kN.get h3 i x hx;exact⟨v,by rw[<-g1];congr 1;omega,g2⟩
theorem kN.jW{c:Array Value}:∀{xs:List AV} {o:Nat},(∀(i:Nat) (x:AV),xs[i]?=some x->∃v,c[o+i]?=some v/\R ι w L x v)->kN ι w L c o xs
 |[],_,_=>by simp[kN]
 |a::xs,o,h=>by
  simp only[kN];refine⟨by simpa using h 0 a (by simp),kN.jW fun i x hx=>?_⟩;obtain⟨v,h1,h2⟩:=h (i+1) x (by simpa using hx);exact⟨v,by rw[<-h1];congr 1;omega,h2⟩
theorem kN.drop{c:Array Value}{xs:List AV}{o:Nat}(h:kN ι w L c o xs)(n:Nat):kN ι w L c (o+n) (xs.drop n):=
 kN.jW fun i x hx=>by
  rw[aK7]at hx;rw[show o+n+i=o+(n+i)from by omega];exact h.get _ x hx
theorem kN.take{c:Array Value}{xs:List AV}{o:Nat}(h:kN ι w L c o xs)(n:Nat):kN ι w L c o (xs.take n):=
 kN.jW fun i x hx=>by
  rw[aK6]at hx;split at hx
  ·exact h.get _ x hx
  ·cases hx
theorem kN.size{c:Array Value}{xs:List AV}{o:Nat}(h:kN ι w L c o xs)(dY:xs≠[]):o+xs.length<=c.size:=by
 have hl:0<xs.length:=List.length_pos_iff.2 dY;obtain⟨v,h1,_⟩:=h.get (xs.length-1) _ (List.getElem?_eq_getElem (by omega))
 have:=(Array.getElem?_eq_some_iff.1 h1).1
 omega
theorem kN.list{c:Array Value}{xs:List AV}{o:Nat}(h:kN ι w L c o xs):Rs ι w L xs (c.extract o (o+xs.length)).toList:=by
 by_cases dY:xs=[]
 ·subst dY;simp[Rs]
 have hs:=h.size dY;refine Rs.jW (by simp;omega) fun i x hx=>?_
 obtain⟨v,h1,h2⟩:=h.get i x hx;have hi:i<xs.length:=(aKS.1 hx).1;refine⟨v,?_,h2⟩;rw[aKX,aK2];rw[if_pos (by omega)];exact h1
theorem Rs.at{c:Array Value}{xs:List AV}{vs:List Value}(h:Rs ι w L xs vs){o:Nat}(hc:∀(i:Nat) (v:Value),vs[i]?=some v->c[o+i]?=some v):kN ι w L c o xs:=
 kN.jW fun i x hx=>let⟨v,h1,h2⟩:=h.get i x hx;⟨v,hc i v h1,h2⟩
end
structure anH(E:Env)(P:Program)(t:Nat)(i:Bn):Prop where
 cV:P.underlying t=some i.cV
 agg:i.isAgg=(match i.cV with|.struct _|.array .. =>true|_=>false)
 info:∃ti,P.info? t=some ti/\ti.size=i.size/\ti.bytes=i.bytes/\
  (∀cs,i.zero=some cs->∃z,ti.zero=some z/\dP (DZ 19) z.cells.toList=some cs/\cs.length=i.size/\
   (i.isAgg=true->∃a,z=.agg a)/\(i.isAgg=false->z.cells=#[z]))
 one:i.isAgg=false->i.size=1
 eq:i.eS=true->P.stoodInHeld t=false/\P.eqGuardType P.depth t=false
structure Valid(E:Env)(P:Program):Prop where
 ty:∀t i,E.ty t=some i->anH E P t i
 fn:∀f fi,E.fn f=some fi->∃fn,P.funcs[f]?=some fn/\fn.body=some fi.code/\fn.ntmps=fi.ntmps/\fn.results.toList=fi.results/\
  fn.name≠ "runtime.NumGoroutine"/\codeOk E fi.code=true
 mixed:P.follows .mixedOrders=true
theorem bg{E:Env}{P:Program}(V:Valid E P){t:Nat}{i:Bn}(h:E.ty t=some i)(w:World):(underlying t).run P w=.ok i.cV w:=
 run_underlying (V.ty t i h).cV w
theorem cX{E:Env}{P:Program}(V:Valid E P){t:Nat}{i:Bn}(h:E.ty t=some i)(w:World):(Go.sizeOf t).run P w=.ok i.size w:=by obtain⟨ti,h1,h2,_⟩:=(V.ty t i h).info;simp[Go.sizeOf,typeInfo,h1,h2]
theorem Fu{E:Env}{P:Program}(V:Valid E P){t:Nat}{i:Bn}(h:E.ty t=some i)(w:World):(isAgg t).run P w=.ok i.isAgg w:=by
 have hu:=bg V h w;have ha:=(V.ty t i h).agg;unfold isAgg;simp only[Sem.run_bind,hu,Result.andThen_ok,ha];cases i.cV<;>rfl
mutual
theorem Ro{ι:eg}{w:World}{L:Nat->Prop}:∀(n:Nat) (v:Value) (av:AV),DZ n v=some av->R ι w L av v
 |0,_,_,h=>by simp[DZ]at h
 |n+1,v,av,h=>by
  unfold DZ at h;split at h
  case h_1=>cases h;simp[R]
  case h_2=>cases h;simp[R]
  case h_3 s=>cases h;simp[R]
  case h_4=>cases h;simp[R]
  case h_5=>cases h;simp[R]
  case h_6=>cases h;simp[R]
  case h_7=>cases h;simp[R]
  case h_8=>cases h;simp[R]
  case h_9 cs=>
   rw[aKP]at h;obtain⟨xs,h1,rfl⟩:=h;simp only[R];exact⟨cs,rfl,yd n cs.toList xs h1⟩
  case h_10 cs=>
   rw[aKP]at h;obtain⟨xs,h1,rfl⟩:=h;simp only[R];exact⟨cs,rfl,yd n cs.toList xs h1⟩
  case h_11 t v=>
   rw[aKP]at h;obtain⟨x,h1,rfl⟩:=h;simp only[R];exact⟨v,rfl,Ro n v x h1⟩
  case h_12=>cases h
theorem yd{ι:eg}{w:World}{L:Nat->Prop}:∀(n:Nat) (vs:List Value) (xs:List AV),dP (DZ n) vs=some xs->Rs ι w L xs vs
 |_,[],_,h=>by simp[dP]at h;subst h;simp[Rs]
 |n,v::vs,xs,h=>by
  unfold dP at h;cases h1:DZ n v with
  |none=>simp[h1]at h
  |some x=>
   simp only[h1]at h;cases h2:dP (DZ n) vs with
   |none=>simp[h2]at h
   |some ys=>
    simp only[h2,aKV.injEq]at h;subst h;simp only[Rs];exact⟨v,vs,rfl,Ro n v x h1,yd n vs ys h2⟩
end
theorem Iu{ι:eg}{w:World}{L:Nat->Prop}{x:AV}{v:Value}(h:R ι w L x v)(ho:df x=true):v.oneCell'=true:=by
 cases x<;>simp only[df,aKT]at ho<;>simp only[R]at h
 case bool=>subst h;rfl
 case int=>subst h;rfl
 case str=>subst h;rfl
 case jF=>subst h;rfl
 case b9=>obtain⟨_,_,_,rfl⟩:=h;rfl
 case eX=>obtain⟨_,_,_,_,_,rfl,_⟩:=h;rfl
 case sf=>subst h;rfl
 case aH=>subst h;rfl
 case eW=>obtain⟨_,_,rfl⟩:=h;rfl
 case aI=>obtain⟨_,_,_,_,_,_,_,rfl,_⟩:=h;rfl
 case aK=>obtain⟨_,_,_,_,_,_,rfl,_⟩:=h;rfl
 case jV=>subst h;rfl
 case jt=>obtain⟨_,_,_,rfl⟩:=h;rfl
 case tO=>obtain⟨_,_,_,rfl,_⟩:=h;rfl
 case jk=>subst h;rfl
 case func=>obtain⟨_,_,rfl,_⟩:=h;rfl
 case nilIface=>subst h;rfl
 case iface=>obtain⟨_,rfl,_⟩:=h;rfl
 case yield=>obtain⟨_,_,_,rfl⟩:=h;rfl
theorem R.cells{ι:eg}{w:World}{L:Nat->Prop}{x:AV}{v:Value}(h:R ι w L x v):Rs ι w L x.cells v.cells.toList:=by
 cases x
 case agg cs=>simp only[R]at h;obtain⟨vs,rfl,h2⟩:=h;exact h2
 all_goals
  have h0:=h;simp only[R]at h;simp only[AV.cells,Rs];refine⟨v,[],?_,h0,rfl⟩
 case bool=>subst h;rfl
 case int=>subst h;rfl
 case str=>subst h;rfl
 case jF=>subst h;rfl
 case b9=>obtain⟨_,_,_,rfl⟩:=h;rfl
 case eX=>obtain⟨_,_,_,_,_,rfl,_⟩:=h;rfl
 case sf=>subst h;rfl
 case aH=>subst h;rfl
 case eW=>obtain⟨_,_,rfl⟩:=h;rfl
 case aI=>obtain⟨_,_,_,_,_,_,_,rfl,_⟩:=h;rfl
 case aK=>obtain⟨_,_,_,_,_,_,rfl,_⟩:=h;rfl
 case jV=>subst h;rfl
 case jt=>obtain⟨_,_,_,rfl⟩:=h;rfl
 case tO=>obtain⟨_,_,_,rfl,_⟩:=h;rfl
 case jk=>subst h;rfl
 case func=>obtain⟨_,_,rfl,_⟩:=h;rfl
 case nilIface=>subst h;rfl
 case iface=>obtain⟨_,rfl,_⟩:=h;rfl
 case tuple=>obtain⟨_,rfl,_⟩:=h;rfl
 case yield=>obtain⟨_,_,_,rfl⟩:=h;rfl
def cz.st:cz->gu
 |.cells st _=>st
 |.map st _ _=>st
 |.kT .. =>.live
 |.loop .. =>.live
def Live(Lo:Nat->Prop)(ι:eg)(H:Hp)(c:Nat):Prop:=Lo c∨∃b eN co,H[b]?=some eN/\eN.st=.live/\ι b=some (c,co)
def WfM(es:Array MapEntry)(clock:Nat):Prop:=(∀x∈es.toList,x.born<clock)/\(es.toList.map (·.born)).Nodup
def jH(ι:eg)(w:World)(L:Nat->Prop)(co:Nat):cz->Obj->Prop
 |.cells st cs,o=>∃c e f,o=.cells c e f/\kN ι w L c co cs/\(st=.live->∀k,k<c.size->¬(f.1<=k/\k<f.2))
 |.map st ks vs,o=>∃es clock,o=.map es clock/\Rs ι w L ks (es.toList.map (·.key))/\Rs ι w L vs (es.toList.map (·.val))/\(st=.live->WfM es clock)
 |.kT s pos,o=>co=0/\o=.stringIter ⟨s.toArray⟩ pos
 |.loop st nV ts ps as bd,o=>∃l:Loop,o=.loop l/\l.state=st/\l.pending=nV/\Rs ι w L ts l.tmps.toList/\l.params.toList=ps/\l.assign=as/\l.body=bd
theorem jH.ext{w w':World}{L L':Nat->Prop}(he:Ext w L w' L'){ι ι':eg}(hi:ι.le ι'){co:Nat}{eN:cz}{o:Obj}(h:jH ι w L co eN o):jH ι' w' L' co eN o:=by
 cases eN<;>simp only[jH]at h⊢
 case cells=>obtain⟨c,e,f,h1,h2,h3⟩:=h;exact⟨c,e,f,h1,kN.ext he _ _ _ _ _ hi h2,h3⟩
 case map=>obtain⟨es,k,h1,h2,h3,h4⟩:=h;exact⟨es,k,h1,Rs.ext he _ _ _ _ hi h2,Rs.ext he _ _ _ _ hi h3,h4⟩
 case kT=>exact h
 case loop=>obtain⟨l,h1,h2,h3,h4,h5⟩:=h;exact⟨l,h1,h2,h3,Rs.ext he _ _ _ _ hi h4,h5⟩
def cz.uc(E:Env):cz->Prop
 |.loop _ p _ _ as bd=>codeOk E as=true/\codeOk E bd=true/\flat as=true/\flat bd=true/\∀c,p=some c->codeOk E c=true
 |_=>True
structure iZ(E:Env)(Lo:Nat->Prop)(w0:World)(ι:eg)(H:Hp)(w:World):Prop where
 below:Below w0.heap.size w0 w
 lo:∀c,Lo c->c<w0.heap.size
 Pr:∀b p,ι b=some p->b<H.length/\p.1<w.heap.size
 obj:∀(b:Nat) (eN:cz),H[b]?=some eN->eN.st≠ .dead->∃cb co o,ι b=some (cb,co)/\w.heap[cb]?=some o/\jH ι w (Live Lo ι H) co eN o/\
  (eN.st=.live->w0.heap.size<=cb)/\(eN.st=.ro->¬Live Lo ι H cb)
 inj:∀(b b':Nat) (eN blk':cz) (c co co':Nat),H[b]?=some eN->eN.st=.live->H[b']?=some blk'->blk'.st=.live->ι b=some (c,co)->ι b'=some (c,co')->b=b'
 glob:∀g cs,E.glob g=some cs->∃c e f,w.heap[g]?=some (.cells c e f)/\¬Live Lo ι H g/\kN cS w (Live Lo ι H) c 0 cs/\c.size=cs.length
 uc:∀(b:Nat) (eN:cz),H[b]?=some eN->eN.st=.live->eN.uc E
 res:∀b p,ι b=some p->H[b]?≠some eP
section
variable{E:Env}{Lo:Nat->Prop}{w0:World}{ι:eg}{H:Hp}{w:World}
def pI(ι:eg)(H:Hp)(aL:Nat):Prop:=ι aL=none/\(aL=H.length∨H[aL]?=some eP)
def eg.put(ι:eg)(b:Nat)(p:Nat×Nat):eg:=fun x=>if x=b then some p else ι x
theorem eg.C9{b:Nat}{p:Nat×Nat}(h:ι b=none):ι.le (ι.put b p):=fun x q hx=>by
 unfold eg.put
 split
 ·rename_i he;subst he;rw[h]at hx;cases hx
 ·exact hx
theorem FQ(h:iZ E Lo w0 ι H w):pI ι H H.length:=
 ⟨by cases hi:ι H.length with
   |none=>rfl
   |some p=>exact absurd (h.Pr _ _ hi).1 (Nat.lt_irrefl _),.inl rfl⟩
theorem ZF(h:iZ E Lo w0 ι H w){aL:Nat}(hn:H[aL]?=some eP):pI ι H aL:=
 ⟨by cases hi:ι aL with
   |none=>rfl
   |some p=>exact absurd hn (h.res _ _ hi),.inr hn⟩
theorem pe{aL:Nat}{eN:cz}(hf:aL<=H.length)(b:Nat):(eE H aL eN)[b]?=if b=aL then some eN else H[b]?:=by
 unfold eE
 split
 ·rename_i h;rw[aKQ];by_cases hb:b=aL
  ·subst hb;simp[h]
  ·rw[if_neg (fun e=>hb e.symm),if_neg hb]
 ·rename_i h
  have:aL=H.length:=by omega
  subst this;by_cases hb:b=H.length
  ·subst hb;simp
  ·rw[if_neg hb,aK5]
   split
   ·rfl
   ·rename_i h2;rw[aK4 (by simp;omega),aK4 (by omega)]
theorem No{aL:Nat}{eN:cz}(hf:aL<=H.length):H.length<=(eE H aL eN).length/\aL<(eE H aL eN).length:=by
 unfold eE
 split
 ·simp;omega
 ·simp;omega
theorem pI.le{aL:Nat}(h:pI ι H aL):aL<=H.length:=by
 rcases h.2 with rfl|h2
 ·exact aKR _
 ·exact Nat.le_of_lt (aKS.1 h2).1
theorem GA{aL cb co:Nat}{eN:cz}(hf:pI ι H aL)(hl:eN.st=.live)(c:Nat):
  Live Lo (ι.put aL (cb,co)) (eE H aL eN) c↔Live Lo ι H c∨c=cb:=by
 unfold Live;constructor
 ·rintro(h|⟨b,bk,x,h1,h2,h3⟩)
  ·exact .inl (.inl h)
  ·rw[pe hf.le]at h1;unfold eg.put at h3;by_cases hb:b=aL
   ·rw[if_pos hb]at h3;cases h3;exact .inr rfl
   ·rw[if_neg hb]at h1 h3;exact .inl (.inr ⟨b,bk,x,h1,h2,h3⟩)
 ·rintro((h|⟨b,bk,x,h1,h2,h3⟩)|h)
  ·exact .inl h
  ·have hb:b≠aL:=fun e=>by subst e;rw[hf.1]at h3;cases h3
   exact .inr ⟨b,bk,x,by rw[pe hf.le,if_neg hb];exact h1,h2,by unfold eg.put;rw[if_neg hb];exact h3⟩
  ·subst h;exact .inr ⟨aL,eN,co,by rw[pe hf.le,if_pos rfl],hl,by unfold eg.put;rw[if_pos rfl]⟩
theorem xO(h:iZ E Lo w0 ι H w){aL:Nat}{eN:cz}(hf:pI ι H aL)(hl:eN.st=.live)(o:Obj){w1:World}(hw:w1.heap=w.heap):
  Ext w (Live Lo ι H) (w1.alloc o) (Live Lo (ι.put aL (w.heap.size,0)) (eE H aL eN)):=by
 refine⟨by simp[World.alloc,hw],fun c hc Mf=>⟨?_,fun EI=>?_⟩,fun c cs e f sd=>⟨cs,f,?_,rfl⟩⟩
 ·simp only[World.alloc,hw];rw[aKW,if_neg (by omega)]
 ·rcases(GA (co:=0) hf hl c).1 EI with h'|h'
  ·exact Mf h'
  ·omega
 ·have:=ie sd
  simp only[World.alloc,hw];rw[aKW,if_neg (by omega)];exact sd
theorem iZ.alloc(h:iZ E Lo w0 ι H w){aL:Nat}{eN:cz}(hf:pI ι H aL)(hl:eN.st=.live){o:Obj}{w1:World}(hw:w1.heap=w.heap)
  (hos:w1.os=w.os) (Hj:w1.tape=w.tape) (yp:w1.output=w.output)
  (ho:jH (ι.put aL (w.heap.size,0)) (w1.alloc o) (Live Lo (ι.put aL (w.heap.size,0)) (eE H aL eN)) 0 eN o) (Gv:eN.uc E:=by trivial):
  iZ E Lo w0 (ι.put aL (w.heap.size,0)) (eE H aL eN) (w1.alloc o):=by
 have hx:=xO h hf hl o hw;have hle:=eg.C9 (p:=(w.heap.size,0)) hf.1;have qM:=h.below.size;refine⟨?_,h.lo,?_,?_,?_,?_,?_,?_⟩
 ·refine h.below.trans ⟨hos,Hj,yp,by simp[World.alloc,hw],fun k hk=>?_⟩;show(w1.heap.push o)[k]?=_
  rw[hw,aKW,if_neg (by omega)]
 ·intro b p hp;unfold eg.put at hp;have tE:=No (eN:=eN) hf.le;split at hp
  ·rename_i e;subst e;cases hp;exact⟨tE.2,by simp[World.alloc,hw]⟩
  ·have:=h.Pr _ _ hp;exact⟨by omega,by simp[World.alloc,hw];omega⟩
 ·intro b bk hb hd;rw[pe hf.le]at hb;by_cases e:b=aL
  ·rw[if_pos e]at hb;cases hb;subst e
   refine⟨w.heap.size,0,o,by simp[eg.put],?_,ho,fun _=>qM,fun hr=>by rw[hl]at hr;cases hr⟩;simp[World.alloc,hw]
  ·rw[if_neg e]at hb;obtain⟨cb,co,ob,h1,h2,h3,h4,h5⟩:=h.obj b bk hb hd;have iH:=ie h2;refine⟨cb,co,ob,hle _ _ h1,?_,h3.ext hx hle,h4,fun hr EI=>?_⟩
   ·show(w1.heap.push o)[cb]?=_
    rw[hw,aKW,if_neg (by omega)];exact h2
   ·rcases(GA (co:=0) hf hl cb).1 EI with h'|h'
    ·exact h5 hr h'
    ·omega
 ·intro b b' bk ZS c co co' hb hs OI Di hi AK;rw[pe hf.le]at hb OI;unfold eg.put at hi AK;by_cases e:b=aL
  ·by_cases e':b'=aL
   ·rw[e,e']
   ·rw[if_pos e]at hi;rw[if_neg e']at AK
    cases hi
    have:=(h.Pr _ _ AK).2
    omega
  ·by_cases e':b'=aL
   ·rw[if_pos e']at AK;rw[if_neg e]at hi
    cases AK
    have:=(h.Pr _ _ hi).2
    omega
   ·rw[if_neg e]at hb hi;rw[if_neg e']at OI AK
    exact h.inj b b' bk ZS c co co' hb hs OI Di hi AK
 ·intro g cs hg;obtain⟨c,e,f,h1,h2,h3,hz⟩:=h.glob g cs hg
  have:=hx.keep h1 h2
  exact⟨c,e,f,this.1,this.2,kN.ext hx _ _ _ _ _ (eg.le_refl _) h3,hz⟩
 ·intro b bk hb hs;rw[pe hf.le]at hb;split at hb
  ·cases hb;exact Gv
  ·exact h.uc b bk hb hs
 ·intro b p hp q;rw[pe hf.le]at q;unfold eg.put at hp;by_cases e:b=aL
  ·rw[if_pos e]at q;cases q;cases hl
  ·rw[if_neg e]at q hp;exact h.res b p hp q
structure Ko(w w':World)(cb:Nat)(o':Obj):Prop where
 os:w'.os=w.os
 tape:w'.tape=w.tape
 output:w'.output=w.output
 size:w'.heap.size=w.heap.size
 here:w'.heap[cb]?=some o'
 there:∀c,c≠cb->w'.heap[c]?=w.heap[c]?
def nG(o o':Obj):Prop:=∀cs e f,o=.cells cs e f->∃vK f',o'=Obj.cells vK e f'/\vK.size=cs.size
theorem Ko.below{w':World}{cb:Nat}{o':Obj}(h:Ko w w' cb o'){B:Nat}(hb:B<=cb):Below B w w':=
 ⟨h.os,h.tape,h.output,Nat.le_of_eq h.size.symm,fun k hk=>h.there k (by omega)⟩
theorem Ko.ext{w':World}{cb:Nat}{o o':Obj}(h:Ko w w' cb o'){L L':Nat->Prop}(ho:w.heap[cb]?=some o)(hs:nG o o')(hl:L cb)(hL:∀c,L' c->L c):
  Ext w L w' L':=
 ⟨Nat.le_of_eq h.size.symm,fun c hc hn=>⟨h.there c (fun e=>hn (e▸hl)),fun h'=>hn (hL c h')⟩,fun c cs e f sd=>by
  by_cases hc:c=cb
  ·subst hc;rw[ho]at sd;cases sd
   obtain⟨vK,f',h1,h2⟩:=hs cs e f rfl;exact⟨vK,f',by rw[h.here,h1],h2⟩
  ·exact⟨cs,f,by rw[h.there c hc];exact sd,rfl⟩⟩
theorem Zu{b:Nat}{eN blk':cz}(hb:H[b]?=some eN)(hs:blk'.st=eN.st)(c:Nat):Live Lo ι (H.set b blk') c↔Live Lo ι H c:=by
 have iH:=(aKS.1 hb).1;unfold Live;constructor
 ·rintro(h|⟨x,bk,co,h1,h2,h3⟩)
  ·exact .inl h
  ·rw[aKQ]at h1;by_cases e:b=x
   ·subst e;rw[if_pos rfl,if_pos iH]at h1;cases h1
    exact .inr ⟨b,eN,co,hb,hs▸h2,h3⟩
   ·rw[if_neg e]at h1;exact .inr ⟨x,bk,co,h1,h2,h3⟩
 ·rintro(h|⟨x,bk,co,h1,h2,h3⟩)
  ·exact .inl h
  ·by_cases e:b=x
   ·subst e;rw[hb]at h1;cases h1
    exact .inr ⟨b,blk',co,by rw[aKQ,if_pos rfl,if_pos iH],by rw[hs];exact h2,h3⟩
   ·exact .inr ⟨x,bk,co,by rw[aKQ,if_neg e];exact h1,h2,h3⟩
theorem Live.congr{Lo:Nat->Prop}{ι ι':eg}{H H':Hp}(h:∀c,Live Lo ι H c↔Live Lo ι' H' c):Live Lo ι H=Live Lo ι' H':=funext fun c=>propext (h c)
theorem iZ.update(h:iZ E Lo w0 ι H w){b cb co:Nat}{eN blk':cz}{o o':Obj}{w':World}(hb:H[b]?=some eN)(hl:eN.st=.live)(EI:blk'.st=.live)
  (hi:ι b=some (cb,co)) (ho:w.heap[cb]?=some o) (F2:nG o o') (hw:Ko w w' cb o')
  (hr:jH ι w' (Live Lo ι H) co blk' o') (Gv:blk'.uc E:=by trivial):iZ E Lo w0 ι (H.set b blk') w'/\Ext w (Live Lo ι H) w' (Live Lo ι (H.set b blk')):=by
 have iH:=(aKS.1 hb).1;have hL:Live Lo ι (H.set b blk')=Live Lo ι H:=Live.congr (Zu hb (EI.trans hl.symm));have tT:Live Lo ι H cb:=.inr ⟨b,eN,co,hb,hl,hi⟩;have hx:Ext w (Live Lo ι H) w' (Live Lo ι H):=hw.ext ho F2 tT (fun _ h=>h);obtain⟨Re,co',o1,g1,_,_,g4,_⟩:=h.obj b eN hb (by rw[hl];simp);rw[hi]at g1;cases g1
 refine⟨⟨h.below.trans (hw.below (g4 hl)),h.lo,?_,?_,?_,?_,?_,?_⟩,by rw[hL];exact hx⟩
 ·intro x p hp
  have:=h.Pr x p hp
  exact⟨by simpa using this.1,by rw[hw.size];exact this.2⟩
 ·intro x bk wI hd;rw[hL];rw[aKQ]at wI;by_cases e:b=x
  ·subst e;rw[if_pos rfl,if_pos iH]at wI;cases wI
   exact⟨cb,co,o',hi,hw.here,hr,fun _=>g4 hl,fun hro=>by rw[EI]at hro;cases hro⟩
  ·rw[if_neg e]at wI;obtain⟨c1,k1,ob,h1,h2,h3,h4,h5⟩:=h.obj x bk wI hd;have dY:c1≠cb:=by
    intro e';cases fZ:bk.st with
    |dead=>exact hd fZ
    |ro=>exact h5 fZ (e'▸tT)
    |live=>exact e (h.inj b x eN bk cb co k1 hb hl wI fZ hi (by rw[h1,e']))
   exact⟨c1,k1,ob,h1,by rw[hw.there c1 dY];exact h2,h3.ext hx (eg.le_refl _),h4,h5⟩
 ·intro x y bk ZS c k k' wI hs hyb Di Je hyi;have conv:∀(z:Nat) (bz:cz),(H.set b blk')[z]?=some bz->bz.st=.live->∃bz',H[z]?=some bz'/\bz'.st=.live:=by
   intro z bz hz hzs;rw[aKQ]at hz;by_cases e:b=z
   ·subst e;exact⟨eN,hb,hl⟩
   ·rw[if_neg e]at hz;exact⟨bz,hz,hzs⟩
  obtain⟨b1,q1,q2⟩:=conv x bk wI hs;obtain⟨b2,q3,q4⟩:=conv y ZS hyb Di;exact h.inj x y b1 b2 c k k' q1 q2 q3 q4 Je hyi
 ·intro g cs hg;rw[hL];obtain⟨c,e,f,h1,h2,h3,hz⟩:=h.glob g cs hg
  have:=hx.keep h1 h2
  exact⟨c,e,f,this.1,this.2,kN.ext hx _ _ _ _ _ (eg.le_refl _) h3,hz⟩
 ·intro x bk wI hs;rw[aKQ]at wI;by_cases e:b=x
  ·subst e;rw[if_pos rfl,if_pos iH]at wI;cases wI
   exact Gv
  ·rw[if_neg e]at wI;exact h.uc x bk wI hs
 ·intro x p hp q;rw[aKQ]at q;by_cases e:b=x
  ·subst e;rw[if_pos rfl,if_pos iH]at q;cases q;cases EI
  ·rw[if_neg e]at q;exact h.res x p hp q
theorem iZ.drew(h:iZ E Lo w0 ι H w){w':World}(hh:w'.heap=w.heap)(hos:w'.os=w.os)(Hj:w'.tape=w.tape)(yp:w'.output=w.output):
  iZ E Lo w0 ι H w'/\Ext w (Live Lo ι H) w' (Live Lo ι H):=by
 have hx:Ext w (Live Lo ι H) w' (Live Lo ι H):=⟨by rw[hh];exact aKR _,fun c _ hn=>⟨by rw[hh],hn⟩,fun c cs e f hc=>⟨cs,f,by rw[hh];exact hc,rfl⟩⟩;refine⟨⟨h.below.trans ⟨hos,Hj,yp,by rw[hh];exact aKR _,fun k _=>by rw[hh]⟩,h.lo,fun b p hp=>by rw[hh];exact h.Pr b p hp,?_,h.inj,?_,h.uc,h.res⟩,hx⟩
 ·intro b bk hb hd;obtain⟨c1,k1,ob,h1,h2,h3,h4,h5⟩:=h.obj b bk hb hd;exact⟨c1,k1,ob,h1,by rw[hh];exact h2,h3.ext hx (eg.le_refl _),h4,h5⟩
 ·intro g cs hg;obtain⟨c,e,f,h1,h2,h3,hz⟩:=h.glob g cs hg;exact⟨c,e,f,by rw[hh];exact h1,h2,kN.ext hx _ _ _ _ _ (eg.le_refl _) h3,hz⟩
theorem iZ.weaken(h:iZ E Lo w0 ι H w){H':Hp}(hlen:H'.length=H.length)(kg:∀b:Nat,H'[b]?=some eP->H[b]?=some eP)
  (hb:∀(b:Nat) (blk':cz),H'[b]?=some blk'->blk'.st≠ .dead->H[b]?=some blk'∨∃eN,H[b]?=some eN/\eN.st=.live/\blk'.st=.ro/\∀ι w L co o,jH ι w L co eN o->jH ι w L co blk' o):
  iZ E Lo w0 ι H' w/\Ext w (Live Lo ι H) w (Live Lo ι H'):=by
 have hL:∀c,Live Lo ι H' c->Live Lo ι H c:=by
  rintro c (hc|⟨b,bk,co,h1,h2,h3⟩)
  ·exact .inl hc
  ·rcases hb b bk h1 (by rw[h2];simp)with h'|⟨b0,_,_,h5,_⟩
   ·exact .inr ⟨b,bk,co,h',h2,h3⟩
   ·rw[h2]at h5;cases h5
 have hx:Ext w (Live Lo ι H) w (Live Lo ι H'):=⟨aKR _,fun c _ hn=>⟨rfl,fun h'=>hn (hL c h')⟩,fun c cs e f hc=>⟨cs,f,hc,rfl⟩⟩;have AS:∀(z:Nat) (bz:cz),H'[z]?=some bz->bz.st=.live->H[z]?=some bz:=by
  intro z bz hz hs;rcases hb z bz hz (by rw[hs];simp)with h'|⟨_,_,_,h5,_⟩
  ·exact h'
  ·rw[hs]at h5;cases h5
 refine⟨⟨h.below,h.lo,fun b p hp=>by rw[hlen];exact h.Pr b p hp,?_,?_,?_,fun b bk OI hs=>h.uc b bk (AS b bk OI hs) hs,fun b p hp q=>h.res b p hp (kg b q)⟩,hx⟩
 ·intro b bk Ho hd;rcases hb b bk Ho hd with h'|⟨b0,g1,g2,g3,g4⟩
  ·obtain⟨c1,k1,ob,h1,h2,h3,h4,h5⟩:=h.obj b bk h' hd;exact⟨c1,k1,ob,h1,h2,h3.ext hx (eg.le_refl _),h4,fun hr hl=>h5 hr (hL _ hl)⟩
  ·obtain⟨c1,k1,ob,h1,h2,h3,h4,h5⟩:=h.obj b b0 g1 (by rw[g2];simp);refine⟨c1,k1,ob,h1,h2,(g4 _ _ _ _ _ h3).ext hx (eg.le_refl _),(fun hl=>by rw[g3]at hl;cases hl),fun _ hl=>?_⟩;rcases hl with hl|⟨b',ZS,co',q1,q2,q3⟩
   ·have:=h.lo c1 hl
    have:=h4 g2
    omega
   ·have q4:=AS b' ZS q1 q2
    have:=h.inj b b' b0 ZS c1 k1 co' g1 g2 q4 q2 h1 q3
    subst this;rw[q1]at Ho;cases Ho
    rw[q2]at g3;cases g3
 ·intro x y bk ZS c k k' wI hs hyb Di Je hyi;exact h.inj x y bk ZS c k k' (AS x bk wI hs) hs (AS y ZS hyb Di) Di Je hyi
 ·intro g cs hg;obtain⟨c,e,f,h1,h2,h3,hz⟩:=h.glob g cs hg;exact⟨c,e,f,h1,fun hl=>h2 (hL _ hl),kN.ext hx _ _ _ _ _ (eg.le_refl _) h3,hz⟩
theorem iZ.kill(h:iZ E Lo w0 ι H w){b:Nat}(cs:List AV)(sd:cs≠[aZ]):iZ E Lo w0 ι (H.set b (.cells .dead cs)) w/\Ext w (Live Lo ι H) w (Live Lo ι (H.set b (.cells .dead cs))):=
 h.weaken (by simp) (fun x hx=>by
  rw[aKQ]at hx;by_cases e:b=x
  ·rw[if_pos e]at hx;split at hx
   ·exact absurd (by simpa[eP]using hx) sd
   ·cases hx
  ·rw[if_neg e]at hx;exact hx) fun x bk hx hd=>by
  rw[aKQ]at hx;by_cases e:b=x
  ·rw[if_pos e]at hx;split at hx
   ·cases hx;exact absurd rfl hd
   ·cases hx
  ·rw[if_neg e]at hx;exact .inl hx
theorem iZ.aiC(h:iZ E Lo w0 ι H w){b aL cb co co':Nat}{eN blk':cz}{cs0:List AV}{o o':Obj}{w':World}(hb:H[b]?=some eN)(hl:eN.st=.live)(EI:blk'.st=.live)
  (hf:pI ι H aL) (hi:ι b=some (cb,co)) (ho:w.heap[cb]?=some o) (F2:nG o o') (hw:Ko w w' cb o')
  (hr:jH (ι.put aL (cb,co')) w' (Live Lo ι H) co' blk' o') (sd:cs0≠[aZ]) (Gv:blk'.uc E:=by trivial):
  iZ E Lo w0 (ι.put aL (cb,co')) (eE (H.set b (.cells .dead cs0)) aL blk') w'/\
   Ext w (Live Lo ι H) w' (Live Lo (ι.put aL (cb,co')) (eE (H.set b (.cells .dead cs0)) aL blk')):=by
 have iH:=(aKS.1 hb).1;have IL:b≠aL:=fun e=>by subst e;rw[hf.1]at hi;cases hi
 have LM:aL<=(H.set b (.cells .dead cs0)).length:=by simpa using hf.le
 have get:∀x,(eE (H.set b (.cells .dead cs0)) aL blk')[x]?=if x=aL then some blk' else if x=b then some (.cells .dead cs0)else H[x]?:=by
  intro x;rw[pe LM x,aKQ];by_cases e:x=aL
  ·rw[if_pos e,if_pos e]
  ·rw[if_neg e,if_neg e];by_cases e2:b=x
   ·subst e2;simp[iH]
   ·rw[if_neg e2,if_neg (fun q=>e2 q.symm)]
 have tT:Live Lo ι H cb:=.inr ⟨b,eN,co,hb,hl,hi⟩;have hL:Live Lo (ι.put aL (cb,co')) (eE (H.set b (.cells .dead cs0)) aL blk')=Live Lo ι H:=by
  refine Live.congr fun c=>⟨?_,?_⟩
  ·rintro(hc|⟨x,bk,k,h1,h2,h3⟩)
   ·exact .inl hc
   ·rw[get]at h1;unfold eg.put at h3;by_cases e:x=aL
    ·rw[if_pos e]at h3;cases h3;exact tT
    ·rw[if_neg e]at h1 h3;by_cases e2:x=b
     ·rw[if_pos e2]at h1;cases h1;cases h2
     ·rw[if_neg e2]at h1;exact .inr ⟨x,bk,k,h1,h2,h3⟩
  ·rintro(hc|⟨x,bk,k,h1,h2,h3⟩)
   ·exact .inl hc
   ·by_cases e2:x=b
    ·subst e2;rw[hi]at h3;cases h3
     exact .inr ⟨aL,blk',co',by rw[get,if_pos rfl],EI,by unfold eg.put;rw[if_pos rfl]⟩
    ·have e:x≠aL:=fun e=>by subst e;rw[hf.1]at h3;cases h3
     exact .inr ⟨x,bk,k,by rw[get,if_neg e,if_neg e2];exact h1,h2,by unfold eg.put;rw[if_neg e];exact h3⟩
 have hx:Ext w (Live Lo ι H) w' (Live Lo ι H):=hw.ext ho F2 tT (fun _ h=>h);have hle:=eg.C9 (p:=(cb,co')) hf.1;obtain⟨Re,aGH,o1,g1,g2',_,g4,_⟩:=h.obj b eN hb (by rw[hl];simp);rw[hi]at g1;cases g1
 rw[hL];refine⟨⟨h.below.trans (hw.below (g4 hl)),h.lo,?_,?_,?_,?_,?_,?_⟩,hx⟩
 ·intro x p hp;have tE:=No (eN:=blk') LM;rw[List.length_set]at tE;unfold eg.put at hp;split at hp
  ·rename_i e;subst e;cases hp;exact⟨tE.2,by rw[hw.size];exact(h.Pr b _ hi).2⟩
  ·have:=h.Pr x p hp
   exact⟨by omega,by rw[hw.size];exact this.2⟩
 ·intro x bk wI hd;rw[hL];rw[get]at wI;by_cases e:x=aL
  ·subst e;rw[if_pos rfl]at wI;cases wI
   exact⟨cb,co',o',by simp[eg.put],hw.here,hr,fun _=>g4 hl,fun hro=>by rw[EI]at hro;cases hro⟩
  ·rw[if_neg e]at wI;by_cases e2:x=b
   ·rw[if_pos e2]at wI;cases wI;exact absurd rfl hd
   ·rw[if_neg e2]at wI;obtain⟨c1,k1,ob,h1,h2,h3,h4,h5⟩:=h.obj x bk wI hd;have dY:c1≠cb:=by
     intro e';cases fZ:bk.st with
     |dead=>exact hd fZ
     |ro=>exact h5 fZ (e'▸tT)
     |live=>exact e2 (h.inj x b bk eN cb k1 co wI fZ hb hl (by rw[h1,e']) hi)
    exact⟨c1,k1,ob,hle _ _ h1,by rw[hw.there c1 dY];exact h2,h3.ext hx hle,h4,h5⟩
 ·intro x y bk ZS c k k' wI hs hyb Di Je hyi;have conv:∀(z:Nat) (bz:cz) (kz:Nat),(eE (H.set b (.cells .dead cs0)) aL blk')[z]?=some bz->bz.st=.live->(ι.put aL (cb,co')) z=some (c,kz)->
    ∃z' bz' kz',H[z']?=some bz'/\bz'.st=.live/\ι z'=some (c,kz')/\(z=aL/\z'=b∨z≠aL/\z≠b/\z'=z):=by
   intro z bz kz hz hzs hzi;rw[get]at hz;unfold eg.put at hzi;by_cases e:z=aL
   ·rw[if_pos e]at hzi;cases hzi
    exact⟨b,eN,co,hb,hl,hi,.inl ⟨e,rfl⟩⟩
   ·rw[if_neg e]at hz hzi;by_cases e2:z=b
    ·rw[if_pos e2]at hz;cases hz;cases hzs
    ·rw[if_neg e2]at hz;exact⟨z,bz,kz,hz,hzs,hzi,.inr ⟨e,e2,rfl⟩⟩
  obtain⟨x',b1,k1,q1,q2,q3,q4⟩:=conv x bk k wI hs Je;obtain⟨y',b2,k2,r1,r2,r3,r4⟩:=conv y ZS k' hyb Di hyi
  have:=h.inj x' y' b1 b2 c k1 k2 q1 q2 r1 r2 q3 r3
  rcases q4 with⟨q4,q5⟩|⟨q4,q5,q6⟩<;>rcases r4 with⟨r4,r5⟩|⟨r4,r5,r6⟩
  ·rw[q4,r4]
  ·exact absurd (by rw[<-r6,<-this,q5]) r5
  ·exact absurd (by rw[<-q6,this,r5]) q5
  ·rw[<-q6,<-r6,this]
 ·intro g cs hg;rw[hL];obtain⟨c,e,f,h1,h2,h3,hz⟩:=h.glob g cs hg
  have:=hx.keep h1 h2
  exact⟨c,e,f,this.1,this.2,kN.ext hx _ _ _ _ _ (eg.le_refl _) h3,hz⟩
 ·intro x bk wI hs;rw[get]at wI;split at wI
  ·cases wI;exact Gv
  ·split at wI
   ·cases wI;cases hs
   ·exact h.uc x bk wI hs
 ·intro x p hp q;rw[get]at q;unfold eg.put at hp;by_cases e:x=aL
  ·rw[if_pos e]at q;cases q;cases EI
  ·rw[if_neg e]at q hp;by_cases e2:x=b
   ·rw[if_pos e2]at q;exact sd (by simpa[eP]using q)
   ·rw[if_neg e2]at q;exact h.res x p hp q
end
section
variable{E:Env}{P:Program}(V:Valid E P){ι:eg}{w:World}{L:Nat->Prop}
theorem Valid.LA{E:Env}{P:Program}(V:Valid E P){t:Nat}{i:Bn}(h:E.ty t=some i):∃ti,P.info? t=some ti/\ti.size=i.size/\ti.bytes=i.bytes:=
 let⟨ti,a,b,c,_⟩:=(V.ty t i h).info;⟨ti,a,b,c⟩
include V in
theorem UW{t:Nat}{i:Bn}(h:E.ty t=some i):P.cellsOf t=i.size:=by obtain⟨ti,h1,h2,_⟩:=V.LA h;simp[Program.cellsOf,h1,h2]
include V in
theorem pB{t:Nat}{cs:List AV}{vs:Array Value}(hr:Rs ι w L cs vs.toList){off:Nat}{av:AV}(h:jq E t cs off=some av):
  ∃v,(part t vs off).run P w=.ok v w/\R ι w L av v:=by
 unfold jq at h;cases hi:E.ty t with
 |none=>simp[hi]at h
 |some i=>
  simp only[hi]at h;unfold part;simp only[Sem.run_bind,Fu V hi w,Result.andThen_ok];cases ha:i.isAgg with
  |true=>
   simp only[ha,if_true]at h⊢;split at h
   ·rename_i hle;cases h;refine⟨.agg (vs.extract off (off+i.size)),by simp[cX V hi w],?_⟩;simp only[R];refine⟨_,rfl,?_⟩;rw[Array.toList_extract]
    have:=(hr.drop off).take i.size
    simpa[aKZ]using this
   ·cases h
  |false=>
   simp only[ha,aKT,if_false]at h⊢;obtain⟨v,h1,h2⟩:=hr.get off av h;rw[aKX]at h1;exact⟨v,by simp[h1],h2⟩
theorem str_inj{a b:List UInt8}:((⟨a.toArray⟩:ByteArray)==⟨b.toArray⟩)=(a==b):=by rw[beq_toListBytes,ByteArray.toList_eq,ByteArray.toList_eq]
theorem Af(V:Valid E P){n d:Nat}(ih:∀(t:Nat) (x y:AV) (vx vy:Value) (b:Bool),R ι w L x vx->R ι w L y vy->yJ E n t x y=some b->(Op.equalIn d t vx vy).run P w=.ok b w):∀(fs:List Field) (xs ys:List AV) (vx vy:Array Value) (b:Bool),Rs ι w L xs vx.toList->Rs ι w L ys vy.toList->
  eqFields E (yJ E n) xs ys fs=some b->(Op.eqFields d vx vy fs).run P w=.ok b w
 |[],_,_,_,_,_,_,_,h=>by simp[eqFields]at h;subst h;simp[Op.eqFields]
 |f::fs,xs,ys,vx,vy,b,hx,hy,h=>by
  unfold eqFields at h;split at h
  ·cases h
  ·rename_i W6;cases h1:jq E f.type xs f.offset with
   |none=>simp[h1]at h
   |some a=>
    cases h2:jq E f.type ys f.offset with
    |none=>simp[h1,h2]at h
    |some c=>
     simp only[h1,h2]at h;obtain⟨va,p1,r1⟩:=pB V hx h1;obtain⟨vc,p2,r2⟩:=pB V hy h2;cases h3:yJ E n f.type a c with
     |none=>simp[h3]at h
     |some r=>
      have h4:=ih f.type a c va vc r r1 r2 h3;simp only[h3]at h;unfold Op.eqFields;simp only[ne_eq,W6,not_false_eq_true,if_true,Sem.run_bind,p1,p2,Result.andThen_ok,h4];cases r with
      |true=>simpa using Af V ih fs xs ys vx vy b hx hy h
      |false=>simp at h;subst h;simp
theorem Dm(V:Valid E P){n d:Nat}(ih:∀(t:Nat) (x y:AV) (vx vy:Value) (b:Bool),R ι w L x vx->R ι w L y vy->yJ E n t x y=some b->(Op.equalIn d t vx vy).run P w=.ok b w)(elem size:Nat):∀(xs ys:List AV) (vx vy:Array Value) (m i:Nat) (b:Bool),Rs ι w L xs vx.toList->Rs ι w L ys vy.toList->
  jL E (yJ E n) elem size xs ys m i=some b->(Op.eqItems d elem size vx vy (List.range' i m)).run P w=.ok b w
 |_,_,_,_,0,_,_,_,_,h=>by simp[jL]at h;subst h;simp[Op.eqItems]
 |xs,ys,vx,vy,m+1,i,b,hx,hy,h=>by
  unfold jL at h;cases h1:jq E elem xs (i*size)with
  |none=>simp[h1]at h
  |some a=>
   cases h2:jq E elem ys (i*size)with
   |none=>simp[h1,h2]at h
   |some c=>
    simp only[h1,h2]at h;obtain⟨va,p1,r1⟩:=pB V hx h1;obtain⟨vc,p2,r2⟩:=pB V hy h2;cases h3:yJ E n elem a c with
    |none=>simp[h3]at h
    |some r=>
     have h4:=ih elem a c va vc r r1 r2 h3;simp only[h3]at h;rw[List.range'_succ];unfold Op.eqItems;simp only[Sem.run_bind,p1,p2,Result.andThen_ok,h4];cases r with
     |true=>simpa using Dm V ih elem size xs ys vx vy m (i+1) b hx hy h
     |false=>simp at h;subst h;simp
theorem Be(V:Valid E P):∀(n d t:Nat) (x y:AV) (vx vy:Value) (b:Bool),n<=d->R ι w L x vx->R ι w L y vy->yJ E n t x y=some b->
  (Op.equalIn d t vx vy).run P w=.ok b w
 |0,_,_,_,_,_,_,_,_,_,_,h=>by simp[yJ]at h
 |n+1,d,t,x,y,vx,vy,b,hd,hx,hy,h=>by
  obtain⟨d,rfl⟩:∃k,d=k+1:=⟨d-1,by omega⟩;unfold yJ at h;cases hi:E.ty t with
  |none=>simp[hi]at h
  |some i=>
   simp only[hi]at h;have hu:=(V.ty t i hi).cV;split at h
   case h_1 gd=>simp only[R]at hx hy;subst hx;subst hy;cases h;rw[gd]at hu;simp[Op.equalIn,run_underlying hu]
   case h_2 gd=>
    simp only[R]at hx hy;subst hx;subst hy
    split at h
    ·rename_i hk;cases h;rw[gd]at hu;simp[Op.equalIn,run_underlying hu,hk]
    ·cases h
   case h_3 gd=>simp only[R]at hx hy;subst hx;subst hy;cases h;rw[gd]at hu;simp[Op.equalIn,run_underlying hu,str_inj]
   case h_4 fields xs ys gd=>
    simp only[R]at hx hy;obtain⟨vxs,rfl,hx⟩:=hx;obtain⟨vys,rfl,hy⟩:=hy;split at h
    ·cases h
    ·rename_i heq;have azY:i.eS=true:=by simpa using heq
     rw[gd]at hu;have hf:P.fieldsOf t=fields:=by simp[Program.fieldsOf,hu]
     rw[run_equalIn_struct w d t vxs vys (by rw[hf];exact hu) ((V.ty t i hi).eq azY).1,hf];exact Af V (fun t x y vx vy b h1 h2 h3=>Be V n d t x y vx vy b (by omega) h1 h2 h3) fields.toList xs ys vxs vys b hx hy h
   case h_5 len elem xs ys gd=>
    simp only[R]at hx hy;obtain⟨vxs,rfl,hx⟩:=hx;obtain⟨vys,rfl,hy⟩:=hy;cases mL:E.ty elem with
    |none=>simp[mL]at h
    |some ei=>
     simp only[mL]at h;obtain⟨ti,h1,h2,_⟩:=V.LA mL;rw[gd]at hu;rw[run_equalIn_array w d vxs vys hu h1,UW V mL,List.range_eq_range'];exact Dm V (fun t x y vx vy b h1 h2 h3=>Be V n d t x y vx vy b (by omega) h1 h2 h3) elem ei.size xs ys vxs vys len 0 b hx hy h
   case h_29=>cases h
   all_goals (rename_i gd;rw[gd]at hu)
   case h_6=>simp only[R]at hx hy;subst hx;subst hy;cases h;simp[Op.equalIn,run_underlying hu]
   case h_7=>simp only[R]at hx hy;subst hx;obtain⟨_,_,_,rfl⟩:=hy;cases h;simp[Op.equalIn,run_underlying hu]
   case h_8=>simp only[R]at hx hy;subst hx;obtain⟨_,_,_,_,_,rfl,_⟩:=hy;cases h;simp[Op.equalIn,run_underlying hu]
   case h_9=>simp only[R]at hx hy;subst hy;obtain⟨_,_,_,rfl⟩:=hx;cases h;simp[Op.equalIn,run_underlying hu]
   case h_10=>simp only[R]at hx hy;subst hy;obtain⟨_,_,_,_,_,rfl,_⟩:=hx;cases h;simp[Op.equalIn,run_underlying hu]
   case h_11=>simp only[R]at hx hy;subst hx;subst hy;cases h;simp[Op.equalIn,run_underlying hu]
   case h_12=>simp only[R]at hx hy;subst hx;obtain⟨_,_,_,_,_,_,_,rfl,_⟩:=hy;cases h;simp[Op.equalIn,run_underlying hu]
   case h_13=>simp only[R]at hx hy;subst hx;obtain⟨_,_,_,_,_,_,rfl,_⟩:=hy;cases h;simp[Op.equalIn,run_underlying hu]
   case h_14=>simp only[R]at hx hy;subst hx;obtain⟨_,_,rfl⟩:=hy;cases h;simp[Op.equalIn,run_underlying hu]
   case h_15=>simp only[R]at hx hy;subst hy;obtain⟨_,_,_,_,_,_,_,rfl,_⟩:=hx;cases h;simp[Op.equalIn,run_underlying hu]
   case h_16=>simp only[R]at hx hy;subst hy;obtain⟨_,_,_,_,_,_,rfl,_⟩:=hx;cases h;simp[Op.equalIn,run_underlying hu]
   case h_17=>simp only[R]at hx hy;subst hy;obtain⟨_,_,rfl⟩:=hx;cases h;simp[Op.equalIn,run_underlying hu]
   case h_18=>simp only[R]at hx hy;subst hx;subst hy;cases h;simp[Op.equalIn,run_underlying hu]
   case h_19=>simp only[R]at hx hy;subst hx;obtain⟨_,_,_,rfl⟩:=hy;cases h;simp[Op.equalIn,run_underlying hu]
   case h_20=>simp only[R]at hx hy;subst hx;obtain⟨_,_,_,rfl,_⟩:=hy;cases h;simp[Op.equalIn,run_underlying hu]
   case h_21=>simp only[R]at hx hy;subst hy;obtain⟨_,_,_,rfl⟩:=hx;cases h;simp[Op.equalIn,run_underlying hu]
   case h_22=>simp only[R]at hx hy;subst hy;obtain⟨_,_,_,rfl,_⟩:=hx;cases h;simp[Op.equalIn,run_underlying hu]
   case h_23=>simp only[R]at hx hy;subst hx;subst hy;cases h;simp[Op.equalIn,run_underlying hu]
   case h_24=>simp only[R]at hx hy;subst hx;obtain⟨_,_,rfl,_⟩:=hy;cases h;simp[Op.equalIn,run_underlying hu]
   case h_25=>simp only[R]at hx hy;subst hy;obtain⟨_,_,rfl,_⟩:=hx;cases h;simp[Op.equalIn,run_underlying hu]
   case h_26=>simp only[R]at hx hy;subst hx;subst hy;cases h;simp[Op.equalIn,run_underlying hu]
   case h_27=>simp only[R]at hx hy;subst hx;obtain⟨_,rfl,_⟩:=hy;cases h;simp[Op.equalIn,run_underlying hu]
   case h_28=>simp only[R]at hx hy;subst hy;obtain⟨_,rfl,_⟩:=hx;cases h;simp[Op.equalIn,run_underlying hu]
end
section
variable{E:Env}{P:Program}{ι:eg}{w:World}{L:Nat->Prop}{ts:List AV}{a:Act}
theorem fK(hf:Rs ι w L ts a.tmps.toList){x:Operand}{av:AV}(h:cn ts x=some av):R ι w L av (a.eval x):=by
 cases x with
 |tmp t=>
  simp only[cn,aKV.injEq]at h;subst h
  have:=hf.getD t
  simpa[Act.eval]using this
 |const v=>exact Ro 20 v av h
 |global g=>simp only[cn,aKV.injEq]at h;subst h;simp[R,Act.eval]
 |func f=>simp only[cn,aKV.injEq]at h;subst h;simp[R,Rs,Act.eval]
theorem LI(hf:Rs ι w L ts a.tmps.toList):∀{xs:List Operand} {avs:List AV},oa ts xs=some avs->Rs ι w L avs (xs.map a.eval)
 |[],_,h=>by simp[oa]at h;subst h;simp[Rs]
 |x::xs,_,h=>by
  unfold oa at h;cases h1:cn ts x with
  |none=>simp[h1]at h
  |some v=>
   cases h2:oa ts xs with
   |none=>simp[h1,h2]at h
   |some vs=>
    simp[h1,h2]at h;subst h;simp only[Rs,List.map_cons];exact⟨_,_,rfl,fK hf h1,LI hf h2⟩
def RsP(ι:eg)(w:World)(L:Nat->Prop):List (Nat×AV)->List (Nat×Value)->Prop
 |[],vs=>vs=[]
 |(i,x)::xs,vs=>∃y ys,vs=(i,y)::ys/\R ι w L x y/\RsP ι w L xs ys
theorem Xp(hf:Rs ι w L ts a.tmps.toList):∀{xs:List (Nat×Operand)} {avs:List (Nat×AV)},xT ts xs=some avs->RsP ι w L avs (xs.map fun(i,x)=>(i,a.eval x))
 |[],_,h=>by simp[xT]at h;subst h;simp[RsP]
 |(i,x)::xs,_,h=>by
  unfold xT at h;cases h1:cn ts x with
  |none=>simp[h1]at h
  |some v=>
   cases h2:xT ts xs with
   |none=>simp[h1,h2]at h
   |some vs=>
    simp[h1,h2]at h;subst h;simp only[RsP,List.map_cons];exact⟨_,_,rfl,fK hf h1,Xp hf h2⟩
def sc:AV->Value
 |.bool b=>.bool b
 |.int k n=>.int k n
 |.str s=>.string ⟨s.toArray⟩
 |_=>undef
theorem ZP{op:BinOp}{k:IntKind}{x y:Int}{av:AV}(h:vF op k x y=some av)(Vu:op≠ .shl/\op≠ .shr)(t:Nat):
  (binOp op t (.int k x) (.int k y)).run P w=.ok (sc av) w/\R ι w L av (sc av):=by
 cases op<;>simp only[vF]at h
 case quo=>split at h;(·cases h);rename_i hy;cases h;exact⟨by simp[binOp,Op.intDiv,hy,sc,aX],by simp[R,sc]⟩
 case rem=>split at h;(·cases h);rename_i hy;cases h;exact⟨by simp[binOp,Op.intDiv,hy,sc],by simp[R,sc]⟩
 all_goals first|(cases h;done)|(cases h;exact⟨by simp[binOp,Op.intArith,Op.intBits,Op.intCmp,sc,aX],by simp[R,sc]⟩)
theorem WL{op:BinOp}{x y:List UInt8}{av:AV}(h:X0 op x y=some av)(t:Nat):
  (binOp op t (.string ⟨x.toArray⟩) (.string ⟨y.toArray⟩)).run P w=.ok (sc av) w/\R ι w L av (sc av):=by
 have hx:∀z:List UInt8,ByteArray.toList ⟨z.toArray⟩=z:=fun z=>by rw[ByteArray.toList_eq]
 have hs:∀z:List UInt8,ByteArray.size ⟨z.toArray⟩=z.length:=fun z=>by simp[ByteArray.size]
 have hm:IntKind.i64.max=9223372036854775807:=by decide
 cases op<;>simp only[X0]at h
 case add=>
  split at h
  ·cases h
  ·rename_i hle;cases h;refine⟨?_,by simp[R,sc]⟩;simp only[binOp,Op.stringOp,hs,hm,if_neg hle,sc];simp only[Sem.run_pure];congr 2
 all_goals first|(cases h;done)|(cases h;exact⟨by simp[binOp,Op.stringOp,hx,sc],by simp[R,sc]⟩)
theorem acY{op:UnOp}{x av:AV}{vx:Value}(hx:R ι w L x vx)(h:unE op x=some av):
  ∃cv,(Op.unary op vx).run P w=.ok cv w/\R ι w L av cv:=by
 unfold unE at h;split at h
 ·simp only[R]at hx;subst hx;refine⟨sc av,?_,?_⟩<;>cases h<;>simp[Op.unary,Op.intArith,sc,aX,R]
 ·simp only[R]at hx;subst hx
  simp only[vF,aKV.injEq]at h;refine⟨sc av,?_,?_⟩<;>subst h<;>simp[Op.unary,Op.intBits,sc,aX,R]
 ·simp only[R]at hx;subst hx;refine⟨sc av,?_,?_⟩<;>cases h<;>simp[Op.unary,sc,R]
 ·cases h
theorem u6{x:AV}{k:IntKind}{n:Int}(h:R ι w L x (.int k n)):x=.int k n:=by
 cases x<;>simp[R]at h⊢
 exact⟨h.1.symm,h.2.symm⟩
theorem pF{x:AV}{b:ByteArray}(h:R ι w L x (.string b)):∃s,x=.str s:=by
 cases x<;>simp[R]at h⊢
theorem SA{x:AV}{k:FloatKind}{b:Nat}(h:R ι w L x (.float k b)):False:=by
 cases x<;>simp[R]at h
theorem Ij{x:AV}{k:FloatKind}{b c:Nat}(h:R ι w L x (.complex k b c)):False:=by
 cases x<;>simp[R]at h
theorem GY{x:AV}(h:R ι w L x .nilIface):x=.nilIface:=by
 cases x<;>simp[R]at h⊢
theorem afI{x:AV}{vs:Array Value}(h:R ι w L x (.agg vs)):∃cs,x=.agg cs:=by
 cases x<;>simp[R]at h⊢
theorem Dk(V:Valid E P){t:Nat}{x y:AV}{ox oy:Operand}{vx vy:Value}{op:BinOp}(hx:R ι w L x vx)(hy:R ι w L y vy)
  (h:dC.zl E (bI ox||bI oy) t x y=some true):(eqGuard op t ox oy vx vy).run P w=.ok () w:=by
 by_cases hn:vx=.nilIface/\vy=.nilIface
 ·obtain⟨rfl,rfl⟩:=hn;have e1:=GY hx;have e2:=GY hy;subst e1;subst e2
  simp only[dC.zl,aKV.injEq,Bool.or_eq_true]at h;unfold eqGuard;cases ox<;>cases oy<;>simp[bI]at h<;>simp<;>(split<;>simp)
 by_cases ha:∃xs ys,vx=.agg xs/\vy=.agg ys
 ·obtain⟨vxs,vys,rfl,rfl⟩:=ha;obtain⟨xs,rfl⟩:=afI hx;obtain⟨ys,rfl⟩:=afI hy;simp only[dC.zl,aKP]at h;obtain⟨i,hi,he⟩:=h;exact run_eqGuard_agg w op t ox oy vxs vys ((V.ty t i hi).eq he).2
 ·have key:eqGuard op t ox oy vx vy=pure ():=by
   unfold eqGuard;cases vx<;>cases vy<;>first|(exact absurd ⟨rfl,rfl⟩ hn)|(exact absurd ⟨_,_,rfl,rfl⟩ ha)|(cases op<;>rfl)
  rw[key];rfl
theorem binOp_eql{vx vy:Value}(h1:∀k a k' b,¬(vx=.int k a/\vy=.int k' b))(h2:∀a b,¬(vx=.string a/\vy=.string b))
  (h3:∀k a,vx≠ .float k a) (h4:∀k a b,vx≠ .complex k a b) (t:Nat):
  binOp .eql t vx vy=(do pure (.bool (<-Op.equal t vx vy)))/\binOp .neq t vx vy=(do pure (.bool (!(<-Op.equal t vx vy)))):=by
 cases vx
 case int=>cases vy<;>first|exact⟨rfl,rfl⟩|exact absurd ⟨rfl,rfl⟩ (h1 _ _ _ _)
 case float=>exact absurd rfl (h3 _ _)
 case complex=>exact absurd rfl (h4 _ _ _)
 case string=>cases vy<;>first|exact⟨rfl,rfl⟩|exact absurd ⟨rfl,rfl⟩ (h2 _ _)
 all_goals (cases vy<;>exact⟨rfl,rfl⟩)
theorem Xe(V:Valid E P){op:BinOp}{t:Nat}{x y av:AV}{ox oy:Operand}{vx vy:Value}(hx:R ι w L x vx)(hy:R ι w L y vy)
  (h:dC E (bI ox||bI oy) op t x y=some av):
  ∃cv,((do eqGuard op t ox oy vx vy;binOp op t vx vy:Sem Value)).run P w=.ok cv w/\R ι w L av cv:=by
 have C8:∀(k k':IntKind) (m n:Int),(eqGuard op t ox oy (.int k m) (.int k' n)).run P w=.ok () w:=fun k k' m n=>by
  unfold eqGuard;split<;>simp
 have UO:∀(m n:ByteArray),(eqGuard op t ox oy (.string m) (.string n)).run P w=.ok () w:=fun m n=>by
  unfold eqGuard;split<;>simp
 unfold dC at h;split at h
 ·simp only[R]at hx hy;subst hx;subst hy
  split at h
  ·cases h
  ·rename_i hb;refine⟨sc av,?_,?_⟩<;>cases h<;>simp[C8,binOp,Op.shift,hb,sc,aX,R]
 ·simp only[R]at hx hy;subst hx;subst hy
  split at h
  ·cases h
  ·rename_i hb;refine⟨sc av,?_,?_⟩<;>cases h<;>simp[C8,binOp,Op.shift,hb,sc,R]
 ·rename_i n1 n2;simp only[R]at hx hy;subst hx;subst hy
  split at h
  ·cases h
  ·rename_i hk;simp only[ne_eq,Decidable.not_not]at hk;subst hk
   have:=ZP (P:=P) (ι:=ι) (w:=w) (L:=L) h ⟨n1,n2⟩ t
   exact⟨_,by simp only[Sem.run_bind,C8,Result.andThen_ok];exact this.1,this.2⟩
 ·simp only[R]at hx hy;subst hx;subst hy
  have:=WL (P:=P) (ι:=ι) (w:=w) (L:=L) h t
  exact⟨_,by simp only[Sem.run_bind,UO,Result.andThen_ok];exact this.1,this.2⟩
 ·rename_i n1 n2;rw[aK1]at h;obtain⟨ok,h1,h2⟩:=h;split at h2
  ·rename_i hok;subst hok;rw[aKP]at h2;obtain⟨b,h3,rfl⟩:=h2;have hq:=Be V 20 10000 t x y vx vy b (by omega) hx hy h3;have hb:=binOp_eql (vx:=vx) (vy:=vy) (fun k p k' q e=>by
     rcases e with⟨rfl,rfl⟩
     exact n1 _ _ _ _ (u6 hx) (u6 hy)) (fun p q e=>by
     rcases e with⟨rfl,rfl⟩
     obtain⟨s1,e1⟩:=pF hx;obtain⟨s2,e2⟩:=pF hy
     exact n2 _ _ e1 e2) (fun k p e=>by subst e;exact SA hx) (fun k p q e=>by subst e;exact Ij hx) t
   refine⟨.bool b,?_,by simp[R]⟩;simp only[Sem.run_bind,Dk V hx hy h1,Result.andThen_ok,hb.1,Op.equal,Op.maxDepth,hq,Sem.run_pure]
  ·cases h2
 ·rename_i n1 n2;rw[aK1]at h;obtain⟨ok,h1,h2⟩:=h;split at h2
  ·rename_i hok;subst hok;rw[aKP]at h2;obtain⟨b,h3,rfl⟩:=h2;have hq:=Be V 20 10000 t x y vx vy b (by omega) hx hy h3;have hb:=binOp_eql (vx:=vx) (vy:=vy) (fun k p k' q e=>by
     rcases e with⟨rfl,rfl⟩
     exact n1 _ _ _ _ (u6 hx) (u6 hy)) (fun p q e=>by
     rcases e with⟨rfl,rfl⟩
     obtain⟨s1,e1⟩:=pF hx;obtain⟨s2,e2⟩:=pF hy
     exact n2 _ _ e1 e2) (fun k p e=>by subst e;exact SA hx) (fun k p q e=>by subst e;exact Ij hx) t
   refine⟨.bool (!b),?_,by simp[R]⟩;simp only[Sem.run_bind,Dk V hx hy h1,Result.andThen_ok,hb.2,Op.equal,Op.maxDepth,hq,Sem.run_pure]
  ·cases h2
 ·cases h
end
theorem addr_add(b o n:Nat):(⟨b,o,none⟩:Addr).add n=⟨b,o+n,none⟩:=by
 unfold Addr.add;split<;>simp_all
section
variable{E:Env}{P:Program}{ι:eg}{w:World}{L:Nat->Prop}{ts:List AV}{a:Act}
theorem F9(V:Valid E P){t f:Nat}{x av:AV}{vx:Value}(hx:R ι w L x vx)(h:dy E t x f=some av):
  ∃cv,(Instr.fieldAt t vx f).run P w=.ok cv w/\R ι w L av cv:=by
 unfold dy at h;split at h
 case h_2=>cases h
 rename_i fields _ _ _ _ _ hi;have hu:=bg V hi w;split at h
 case h_2=>cases h
 rename_i fd hfd;split at h
 case h_2=>cases h
 rename_i fi mI;have hs:=cX V mI w;split at h
 ·cases h
 rename_i hz;split at h<;>first|(cases h;done)|skip
 ·cases h;simp only[R]at hx⊢;obtain⟨cb,co,h1,rfl⟩:=hx;refine⟨_,?_,cb,co,h1,rfl⟩;simp[Instr.fieldAt,hu,hfd,Instr.sureAddr,fieldPlace,hs,hz,addr_add,aKU]
 ·cases h;simp only[R]at hx⊢;obtain⟨cb,o,c,e,f',rfl,h2,h3,h4⟩:=hx;refine⟨_,?_,cb,o,c,e,f',rfl,h2,h3,h4⟩;simp[Instr.fieldAt,hu,hfd,Instr.sureAddr,fieldPlace,hs,hz,addr_add,aKU]
 ·cases h;simp only[R]at hx⊢;subst hx;refine⟨_,?_,rfl⟩;simp[Instr.fieldAt,hu,hfd,Instr.sureAddr,fieldPlace,hs,hz,addr_add]
theorem Rz(V:Valid E P){t f:Nat}{x av:AV}{vx:Value}(hx:R ι w L x vx)(h:GN E t x f=some av):
  ∃cv,(Instr.field t vx f).run P w=.ok cv w/\R ι w L av cv:=by
 unfold GN at h;split at h
 case h_2=>cases h
 rename_i fields _ _ _ _ _ cs hi;have hu:=bg V hi w;split at h
 case h_2=>cases h
 rename_i fd hfd;simp only[R]at hx;obtain⟨vs,rfl,hr⟩:=hx;obtain⟨v,h1,h2⟩:=pB V hr h;exact⟨v,by simp[Instr.field,hu,hfd,asAgg,h1],h2⟩
theorem Qu(V:Valid E P){t:Nat}{x ix av:AV}{vx vi:Value}(hx:R ι w L x vx)(Dz:R ι w L ix vi)(h:pZ E t x ix=some av):
  ∃cv,(Instr.index t vx vi).run P w=.ok cv w/\R ι w L av cv:=by
 unfold pZ at h;split at h
 case h_2=>cases h
 rename_i i k n hi;have hu:=bg V hi w;simp only[R]at Dz;subst Dz;split at h
 ·rename_i len e cs gd;rw[gd]at hu;split at h
  case h_2=>cases h
  rename_i ei mL;split at h
  ·rename_i hb;simp only[R]at hx;obtain⟨vs,rfl,hr⟩:=hx;obtain⟨v,h1,h2⟩:=pB V hr h;exact⟨v,by simp[Instr.index,asIntOf,hu,hb,cX V mL w,h1],h2⟩
  ·cases h
 ·rename_i s gd;rw[gd]at hu;split at h
  ·rename_i hb;rw[aKP]at h;obtain⟨c,hc,rfl⟩:=h;simp only[R]at hx⊢;subst hx;refine⟨_,?_,rfl⟩
   have:(⟨s.toArray⟩:ByteArray)[n.toNat]?=some c:=by
    rw[show(⟨s.toArray⟩:ByteArray)[n.toNat]?=s.toArray[n.toNat]? from by
     simp only[getElem?_def,ByteArray.size];rfl]
    simpa using hc
   simp[Instr.index,asIntOf,hu,hb,this]
  ·cases h
 ·cases h
theorem Gg(V:Valid E P){t:Nat}{x ix av:AV}{vx vi:Value}(hx:R ι w L x vx)(Dz:R ι w L ix vi)(h:cF E t x ix=some av):
  ∃cv,(Instr.indexAt t vx vi).run P w=.ok cv w/\R ι w L av cv:=by
 unfold cF at h;split at h
 case h_2=>cases h
 rename_i i k n hi;have hu:=bg V hi w;simp only[R]at Dz;subst Dz;split at h
 ·rename_i len e gd;rw[gd]at hu;split at h
  case h_2=>cases h
  rename_i ei mL;split at h
  case isFalse=>cases h
  rename_i hb;split at h<;>first|(cases h;done)|skip
  ·cases h;simp only[R]at hx⊢;obtain⟨cb,co,h1,rfl⟩:=hx;refine⟨_,?_,cb,co,h1,rfl⟩;simp[Instr.indexAt,asIntOf,hu,Instr.sureAddr,hb,cX V mL w,addr_add,aKU]
  ·cases h;simp only[R]at hx⊢;obtain⟨cb,o,c,e',f',rfl,h2,h3,h4⟩:=hx;refine⟨_,?_,cb,o,c,e',f',rfl,h2,h3,h4⟩;simp[Instr.indexAt,asIntOf,hu,Instr.sureAddr,hb,cX V mL w,addr_add,aKU]
  ·cases h;simp only[R]at hx⊢;subst hx;refine⟨_,?_,rfl⟩;simp[Instr.indexAt,asIntOf,hu,Instr.sureAddr,hb,cX V mL w,addr_add]
 ·rename_i e gd;rw[gd]at hu;split at h
  case h_2=>cases h
  rename_i ei mL;split at h<;>first|(cases h;done)|skip
  ·split at h
   case isFalse=>cases h
   rename_i hb;obtain⟨he,hb⟩:=hb;cases h;simp only[R]at hx⊢;obtain⟨cb,co,cap,c,e',f',h1,rfl,_⟩:=hx;refine⟨_,?_,cb,co,h1,rfl⟩;simp[Instr.indexAt,asIntOf,hu,hb,cX V mL w,addr_add,aKU,he]
  ·split at h
   case isFalse=>cases h
   rename_i hb;cases h;simp only[R]at hx⊢;obtain⟨cb,o,cap,c,e',f',rfl,h2,h3,h4,h5⟩:=hx;refine⟨_,?_,cb,o,c,e',f',rfl,h3,h4,h5⟩;simp[Instr.indexAt,asIntOf,hu,hb,cX V mL w,addr_add]
 ·cases h
def yu(ι:eg)(w:World)(L:Nat->Prop):Option AV->Option Value->Prop
 |none,v=>v=none
 |some x,v=>∃y,v=some y/\R ι w L x y
theorem xY(hf:Rs ι w L ts a.tmps.toList){x:Option Operand}{av:Option AV}(h:jd ts x=some av):yu ι w L av (x.map a.eval):=by
 cases x with
 |none=>simp only[jd,aKV.injEq]at h;subst h;simp[yu]
 |some x=>
  simp only[jd,aKP]at h;obtain⟨v,h1,rfl⟩:=h;simp only[yu,Option.map_some];exact⟨_,rfl,fK hf h1⟩
theorem I1{lim cap n:Nat}{x:AV}{v:Value}(hx:R ι w L x v)(h:asNat lim x=some n)(hc:lim<=cap)(code:BoundsCode):
  (Instr.sliceBound v cap code).run P w=.ok n w/\n<=lim:=by
 unfold asNat at h;split at h
 ·rename_i k m;split at h
  ·rename_i hb;cases h;simp only[R]at hx;subst hx
   have:0<=m/\m<=(cap:Int):=⟨hb.1,by omega⟩
   exact⟨by simp[Instr.sliceBound,asIntOf,this],by omega⟩
  ·cases h
 ·cases h
theorem acr{H l:Nat}{lo:Option AV}{OB:Option Value}(kO:yu ι w L lo OB)
  (h:loE H lo=some l):
  (match OB with|some v=>Instr.sliceBound v H .sliceB|none=>(pure 0:Sem Nat)).run P w=.ok l w/\l<=H:=by
 cases lo with
 |none=>simp only[yu]at kO;subst kO;cases h;exact⟨rfl,Nat.zero_le _⟩
 |some x=>
  simp only[yu]at kO;obtain⟨y,rfl,hy⟩:=kO;exact I1 (P:=P) hy h (aKR _) _
theorem oR{len kc cap l h:Nat}{lo hi:Option AV}{OB X9:Option Value}(kO:yu ι w L lo OB)(P7:yu ι w L hi X9)
  (hb:gW len kc lo hi=some (l,h)) (h1:len<=kc) (h2:kc<=cap) (isS:Bool):
  (Instr.sliceBounds isS len cap OB X9 none).run P w=.ok (l,h,cap) w/\l<=h/\h<=kc:=by
 unfold gW at hb;split at hb
 ·cases hb
 rename_i H hH;split at hb
 ·cases hb
 rename_i Lw hL;simp only[aKV.injEq,Prod.mk.injEq]at hb;obtain⟨rfl,rfl⟩:=hb;have e2:=acr (P:=P) kO hL;cases hi with
 |none=>
  simp only[yu]at P7;subst P7
  cases hH;refine⟨?_,e2.2,h1⟩;unfold Instr.sliceBounds;simp only[Sem.run_bind,Sem.run_pure,Result.andThen_ok,aKY,aKT,if_false];cases OB with
  |none=>have:=e2.1;simp at this;subst this;rfl
  |some v=>have:=e2.1;simp only at this;simp only[Sem.run_bind,this,Result.andThen_ok,Sem.run_pure]
 |some x=>
  simp only[yu]at P7;obtain⟨y,rfl,hy⟩:=P7;have e1:=I1 (P:=P) hy hH h2 (if isS then .sliceAcap else .sliceAlen);refine⟨?_,e2.2,e1.2⟩;unfold Instr.sliceBounds;simp only[Sem.run_bind,Sem.run_pure,Result.andThen_ok,aKY,aKT,if_false];rw[e1.1];simp only[Result.andThen_ok];cases OB with
  |none=>have:=e2.1;simp at this;subst this;rfl
  |some v=>have:=e2.1;simp only at this;simp only[Sem.run_bind,this,Result.andThen_ok,Sem.run_pure]
theorem QC(V:Valid E P){t:Nat}{x av:AV}{vx:Value}{lo hi:Option AV}{OB X9:Option Value}(hx:R ι w L x vx)(kO:yu ι w L lo OB)(P7:yu ι w L hi X9)
  (h:iS E t x lo hi=some av):∃cv,(Instr.sliceAt t vx OB X9 none).run P w=.ok cv w/\R ι w L av cv:=by
 unfold iS at h;split at h
 ·cases h
 rename_i i AK;have hu:=bg V AK w;split at h
 ·rename_i s gd;rw[gd]at hu;rw[aKP]at h;obtain⟨⟨l,hh⟩,hb,rfl⟩:=h;simp only[R]at hx;subst hx
  have:=oR (P:=P) kO P7 hb (aKR _) (aKR _) false
  refine⟨.string ⟨((s.drop l).take (hh-l)).toArray⟩,?_,by simp[R]⟩;have Eb:ByteArray.size ⟨s.toArray⟩=s.length:=by simp[ByteArray.size]
  simp only[Instr.sliceAt,Sem.run_bind,hu,Result.andThen_ok,Instr.slice,aKY,aKT,if_false,Sem.run_pure,Eb,this.1];congr 2;apply ByteArray.ext;rw[ByteArray.data_extract];apply Array.toList_inj.1;simp[aKZ]
 ·rename_i e gd;rw[gd]at hu;split at h
  case h_2=>cases h
  rename_i ei p mL hb;obtain⟨l,hh⟩:=p;cases h;simp only[R]at hx;subst hx;have vO:=oR (P:=P) kO P7 hb (aKR _) (aKR _) true
  have:l=0/\hh=0:=by omega
  obtain⟨rfl,rfl⟩:=this;refine⟨.slice none 0 0,?_,by simp[R]⟩;obtain⟨_,_,hw0⟩:=V.LA mL;simp[Instr.sliceAt,hu,Instr.slice,vO.1,cX V mL w]
 ·rename_i e gd;rw[gd]at hu;split at h
  case h_2=>cases h
  rename_i ei p mL hb;obtain⟨l,hh⟩:=p;cases h;simp only[R]at hx;obtain⟨ad,cap,rfl⟩:=hx;have vO:=oR (P:=P) (cap:=cap) kO P7 hb (aKR _) (Nat.zero_le _) true
  have:l=0/\hh=0:=by omega
  obtain⟨rfl,rfl⟩:=this;refine⟨_,by simp[Instr.sliceAt,hu,Instr.slice,vO.1,cX V mL w];rfl,?_⟩;simp only[R]
  split
  ·exact⟨_,_,rfl⟩
  ·exact⟨_,_,rfl⟩
 ·rename_i e b off len esz kc gd;rw[gd]at hu;split at h
  case h_2=>cases h
  rename_i ei l hh mL hb;simp only[R]at hx;obtain⟨cb,co,cap,c,e',f,h1,rfl,h3,h4,h5,h6⟩:=hx;have vO:=oR (P:=P) (cap:=cap) kO P7 hb h3 h4 true;split at h
  ·cases h
  rename_i En;have En:ei.size=esz:=by simpa using En
  have n7:(Instr.sliceAt t (.slice (some ⟨cb,co+off,none⟩) len cap) OB X9 none).run P w=
    .ok (.slice (if cap=l then some ⟨cb,co+off,none⟩else some ⟨cb,co+off+l*esz,none⟩) (hh-l) (cap-l)) w:=by
   simp[Instr.sliceAt,hu,Instr.slice,vO.1,cX V mL w,addr_add,En]
  split at h
  ·rename_i hl;subst hl;cases h;refine⟨_,n7,?_⟩;simp only[R];refine⟨cb,co,cap,c,e',f,h1,?_,vO.2.2,h4,h5,h6⟩
   split<;>simp
  ·rename_i hl;split at h
   ·rename_i Wv;cases h;refine⟨_,n7,?_⟩;simp only[R,Wv,aK0]
    split
    ·exact⟨_,_,rfl⟩
    ·exact⟨_,_,rfl⟩
   ·rename_i Wv;cases h;refine⟨_,n7,?_⟩;simp only[R];have dY:cap≠l:=by omega
    refine⟨cb,co,cap-l,c,e',f,h1,by rw[if_neg dY,aKU],by omega,by omega,h5,?_⟩
    have:l*esz+(cap-l)*esz=cap*esz:=by rw[<-Nat.add_mul];congr 1;omega
    omega
 ·rename_i e cs len gd;rw[gd]at hu;split at h
  case h_2=>cases h
  rename_i ei l hh mL hb;simp only[R]at hx;obtain⟨cb,o,cap,c,e',f,rfl,h2,h3,h4,h5⟩:=hx;have vO:=oR (P:=P) (cap:=cap) kO P7 hb (aKR _) h2 true;have n7:(Instr.sliceAt t (.slice (some ⟨cb,o,none⟩) len cap) OB X9 none).run P w=
    .ok (.slice (if cap=l then some ⟨cb,o,none⟩else some ⟨cb,o+l*ei.size,none⟩) (hh-l) (cap-l)) w:=by
   simp[Instr.sliceAt,hu,Instr.slice,vO.1,cX V mL w,addr_add]
  split at h
  ·rename_i Wv;cases h;refine⟨_,n7,?_⟩;simp only[R,Wv,aK0]
   split
   ·exact⟨_,_,rfl⟩
   ·exact⟨_,_,rfl⟩
  ·rename_i Wv;cases h;refine⟨_,n7,?_⟩;simp only[R];have dY:cap≠l:=by omega
   exact⟨cb,o+l*ei.size,cap-l,c,e',f,by rw[if_neg dY],by omega,h3,h4,(h5.drop _).take _⟩
 ·cases h
end
section
variable{E:Env}{P:Program}{ι:eg}{w:World}{L:Nat->Prop}{ts:List AV}{a:Act}{Lo:Nat->Prop}{w0:World}{H:Hp}
theorem uJ{cb o:Nat}{c:Array Value}{e:TypeId}{f:Nat×Nat}(h:w.heap[cb]?=some (.cells c e f)):w.cell? ⟨cb,o,none⟩=c[o]?:=by simp[World.cell?,h]
theorem aah(S:iZ E Lo w0 ι H w){p:AV}{v:Value}{cs:List AV}{off:Nat}(hp:R ι w (Live Lo ι H) p v)(h:HP E H p=some (cs,off)):
  ∃cb o c e f,v=.pointer (some ⟨cb,o+off,none⟩)/\w.heap[cb]?=some (.cells c e f)/\kN ι w (Live Lo ι H) c o cs:=by
 unfold HP at h;split at h
 ·rename_i b ayr;split at h
  case h_2=>cases h
  rename_i st vK hb;split at h
  ·cases h
  rename_i fZ;cases h;simp only[R]at hp;obtain⟨cb,co,h1,rfl⟩:=hp;obtain⟨Re,co',o,g1,g2,g3,_⟩:=S.obj b _ hb fZ;rw[h1]at g1;cases g1
  simp only[jH]at g3;obtain⟨c,e,f,rfl,g4,_⟩:=g3;exact⟨cb,co,c,e,f,rfl,g2,g4⟩
 ·cases h;simp only[R]at hp;obtain⟨cb,o,c,e,f,rfl,h2,h3,h4⟩:=hp;exact⟨cb,o,c,e,f,rfl,h2,kN.ext (Ext.refl _ _) _ _ _ _ _ (tP _) h4⟩
 ·rename_i g ayr;rw[aKP]at h;obtain⟨vK,hg,h⟩:=h;cases h;simp only[R]at hp;subst hp;obtain⟨c,e,f,h1,h2,h3,-⟩:=S.glob g _ hg;exact⟨g,0,c,e,f,by simp,h1,kN.ext (Ext.refl _ _) _ _ _ _ _ (tP _) h3⟩
 ·cases h
theorem I5{cb o:Nat}{c:Array Value}{e:TypeId}{f:Nat×Nat}(hc:w.heap[cb]?=some (.cells c e f)){cs:List AV}(hr:kN ι w L c o cs):
  ∃vs:List Value,vs.length=cs.length/\(loadCells ⟨cb,o,none⟩ cs.length).run P w=.ok vs.toArray w/\Rs ι w L cs vs:=by
 refine⟨(c.extract o (o+cs.length)).toList,hr.list.length,?_,hr.list⟩
 have:=run_loadCells_list (P:=P) w ⟨cb,o,none⟩ (c.extract o (o+cs.length)).toList (fun j v hj=>by
  rw[addr_add,uJ hc];rw[aKX,aK2]at hj;split at hj
  ·exact hj
  ·cases hj)
 rw[hr.list.length]at this;exact this
theorem N0(V:Valid E P){t:Nat}{cb o off:Nat}{c:Array Value}{e:TypeId}{f:Nat×Nat}(hc:w.heap[cb]?=some (.cells c e f)){cs:List AV}(hr:kN ι w L c o cs)
  {av:AV} (h:jq E t cs off=some av):∃v,(loadVar t ⟨cb,o+off,none⟩).run P w=.ok v w/\R ι w L av v:=by
 unfold jq at h;cases hi:E.ty t with
 |none=>simp[hi]at h
 |some i=>
  simp only[hi]at h;unfold loadVar;simp only[Sem.run_bind,Fu V hi w,Result.andThen_ok];cases ha:i.isAgg with
  |true=>
   simp only[ha,if_true]at h⊢;split at h
   ·rename_i hle;cases h;have nw:=(hr.drop off).take i.size;have hlen:((cs.drop off).take i.size).length=i.size:=by simp;omega
    obtain⟨vs,h1,h2,h3⟩:=I5 (P:=P) hc nw;rw[hlen]at h2;refine⟨.agg vs.toArray,by simp[cX V hi w,h2],?_⟩;simp only[R];exact⟨vs.toArray,rfl,by simpa using h3⟩
   ·cases h
  |false=>
   simp only[ha,aKT,if_false]at h⊢;obtain⟨v,h1,h2⟩:=hr.get off av h;exact⟨v,by simp[uJ hc,h1],h2⟩
theorem Ux(V:Valid E P)(S:iZ E Lo w0 ι H w){t:Nat}{p av:AV}{v:Value}(hp:R ι w (Live Lo ι H) p v)(h:gT E H t p=some av):
  ∃cv,(Instr.loadAt t v).run P w=.ok cv w/\R ι w (Live Lo ι H) av cv:=by
 unfold gT at h;split at h
 case h_2=>cases h
 rename_i cs off hpt;obtain⟨cb,o,c,e,f,rfl,h2,h3⟩:=aah S hp hpt;obtain⟨cv,g1,g2⟩:=N0 V h2 h3 h;exact⟨cv,by simpa[Instr.loadAt,Instr.sureAddr]using g1,g2⟩
theorem HL(V:Valid E P)(S:iZ E Lo w0 ι H w){t:Nat}{x av:AV}{vx:Value}{lo hi:Option AV}{OB X9:Option Value}(hx:R ι w (Live Lo ι H) x vx)
  (kO:yu ι w (Live Lo ι H) lo OB) (P7:yu ι w (Live Lo ι H) hi X9)
  (h:jQ E H t x lo hi=some av):∃cv,(Instr.sliceAt t vx OB X9 none).run P w=.ok cv w/\R ι w (Live Lo ι H) av cv:=by
 unfold jQ at h;split at h
 case h_2=>cases h
 rename_i n e _ _ _ _ _ AK;have hu:=bg V AK w;split at h
 case h_2=>cases h
 rename_i ei l hh mL hb;have vO:=oR (P:=P) (cap:=n) kO P7 hb (aKR _) (aKR _) false;have n7:∀cb o,(Instr.sliceAt t (.pointer (some ⟨cb,o,none⟩)) OB X9 none).run P w=
   .ok (.slice (some (if n=l then⟨cb,o,none⟩else⟨cb,o+l*ei.size,none⟩)) (hh-l) (n-l)) w:=by
  intro cb o;simp[Instr.sliceAt,hu,Instr.sureAddr,vO.1,cX V mL w,addr_add]
 split at h
 ·rename_i b off;split at h
  case h_2=>cases h
  rename_i st cs Ho;split at h
  ·cases h
  rename_i fZ;simp only[not_or]at fZ;simp only[R]at hx;obtain⟨cb,co,h1,rfl⟩:=hx;obtain⟨Re,co',o,g1,g2,g3,_⟩:=S.obj b _ Ho fZ.1;rw[h1]at g1;cases g1
  simp only[jH]at g3;obtain⟨c,e',f,rfl,g4,_⟩:=g3;split at h
  ·rename_i Wv;cases h;refine⟨_,n7 _ _,?_⟩;simp only[R,Wv,aK0];exact⟨_,_,rfl⟩
  ·rename_i Wv;cases h;refine⟨_,n7 _ _,?_⟩;simp only[R];have dY:n≠l:=by omega
   refine⟨cb,co,n-l,c,e',f,h1,by rw[if_neg dY,aKU],by omega,by omega,g2,?_⟩;have hm:l*ei.size+(n-l)*ei.size=n*ei.size:=by rw[<-Nat.add_mul];congr 1;omega
   have hlen:off+n*ei.size<=cs.length:=by omega
   have sd:cs≠[]:=fun e=>by subst e;simp at fZ
   have:=g4.size sd
   omega
 ·rename_i cs off;simp only[R]at hx;obtain⟨cb,o,c,e',f,rfl,h2,h3,h4⟩:=hx;split at h
  ·rename_i Wv;cases h;refine⟨_,n7 _ _,?_⟩;simp only[R,Wv,aK0];exact⟨_,_,rfl⟩
  ·rename_i Wv;cases h;refine⟨_,n7 _ _,?_⟩;simp only[R];have dY:n≠l:=by omega
   refine⟨cb,o+off+l*ei.size,n-l,c,e',f,by rw[if_neg dY],by omega,h2,h3,?_⟩
   have:=(h4.drop (off+l*ei.size)).take ((hh-l)*ei.size)
   rwa[<-aKU]at this
 ·cases h
theorem IQ(off:Nat):∀(vs:List Value) (k:Nat) (cur:List Value),off+k+vs.length<=cur.length->
  (vs.zipIdx k).foldl (fun(cs:List Value) p=>cs.set (off+p.2) p.1) cur=cur.take (off+k)++vs++cur.drop (off+k+vs.length)
 |[],k,cur,h=>by simp
 |v::vs,k,cur,h=>by
  simp only[List.zipIdx_cons,List.foldl_cons];simp only[List.length_cons]at h;rw[IQ off vs (k+1) (cur.set (off+k) v) (by simp;omega)];have h1:(cur.set (off+k) v).take (off+(k+1))=cur.take (off+k)++[v]:=by rw[show off+(k+1)=(off+k)+1 from by omega,List.take_set,List.take_succ_eq_append_getElem (by omega),List.set_append];simp[Nat.min_eq_left (show off+k<=cur.length by omega)]
  have h2:(cur.set (off+k) v).drop (off+(k+1)+vs.length)=cur.drop (off+k+(vs.length+1)):=by rw[List.drop_set_of_lt (by omega)];congr 1;omega
  rw[h1,h2]
  simp
theorem GV(off:Nat):∀(zs:List (Value×Nat)) (cur:Array Value),
  (zs.foldl (fun cs p=>cs.setIfInBounds (off+p.2) p.1) cur).toList=zs.foldl (fun(cs:List Value) p=>cs.set (off+p.2) p.1) cur.toList
 |[],cur=>rfl
 |z::zs,cur=>by
  simp only[List.foldl_cons];rw[GV off zs,Array.toList_setIfInBounds]
theorem Bl{place:Nat->Option (Nat×Nat)}:∀{l:List (Nat×AV)} {vs:List (Nat×Value)} {cs out:List AV} {cells:Array Value},RsP ι w L l vs->Rs ι w L cs cells.toList->
  gV place cs l=some out->∃res,Instr.fill place cells vs=some res/\Rs ι w L out res.toList
 |[],_,_,_,_,hl,hc,h=>by
  simp only[RsP]at hl;subst hl
  simp only[gV,aKV.injEq]at h;subst h
  exact⟨_,rfl,hc⟩
 |(i,x)::l,_,cs,out,cells,hl,hc,h=>by
  simp only[RsP]at hl;obtain⟨y,ys,rfl,hxy,hl⟩:=hl;unfold gV at h;split at h
  ·cases h
  rename_i off size hp;split at h
  ·cases h
  rename_i uf;simp only[ne_eq,Bool.or_eq_true,decide_eq_true_eq,not_or,Decidable.not_not,Nat.not_lt]at uf;obtain⟨Eb,hle⟩:=uf;have ae9:=hxy.cells;have DY:y.cells.size=size:=by have:=ae9.length;simpa[Eb]using this
  have Tc:cells.size=cs.length:=by have:=hc.length;simpa using this
  unfold Instr.fill;simp only[hp];rw[if_neg (by simp[DY,Tc];omega)];refine Bl hl ?_ h;rw[<-Array.foldl_toList,GV off];rw[Array.toList_zipIdx,IQ off _ 0 _ (by simp[DY,Tc];omega)];have e1:y.cells.toList.length=size:=by simpa using DY
  rw[e1];exact((hc.take off).append ae9).append (hc.drop (off+size))
end
end Dv
