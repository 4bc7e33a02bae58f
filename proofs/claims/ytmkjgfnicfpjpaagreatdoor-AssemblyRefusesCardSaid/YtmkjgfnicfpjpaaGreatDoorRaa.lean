/- Lemmas for AssemblyRefuses; no condition. -/
import Derived.Calls
import Derived.Orders
import Derived.Below
import Derived.RangeFuncLeaves
import Derived.OrdersIn
import Derived.Laws.IdiomCopy
import Derived.Laws.Append
import Derived.Laws.IdiomRangeMap
set_option linter.all false
set_option maxHeartbeats 100000000
set_option maxRecDepth 100000
noncomputable section
open List renaming getElem?_set->aLp,getElem?_eq_some_iff->aLq,replicate->aLu,getElem?_eq_none->aLv,getElem?_append->aLw,getElem?_take->aLx,getElem?_drop->aLy
open Array renaming getElem?_push->aLr
open Option renaming map_eq_some_iff->aLs
open Nat renaming le_refl->aLt
namespace Dv
open Go
noncomputable section
inductive AV where
 |bool (b:Bool)
 |int (k:IntKind) (n:Int)
 |str (s:List UInt8)
 |gQ
 |bK (b off:Nat)
 |cS (cells:List AV) (off:Nat)
 |ie (g off:Nat)
 |aH
 |dw
 |aI (b off len esz kc:Nat)
 |aK (cells:List AV) (len:Nat)
 |gb
 |eR (b:Nat)
 |vV (keys aBX:List AV)
 |fR
 |func (f:Nat) (first cap:List AV)
 |nilIface
 |iface (t:Nat) (v:AV)
 |agg (cells:List AV)
 |tuple (vs:List AV)
 |yield (l:Nat)
 deriving Inhabited
inductive qW where
 |live|ro|dead
 deriving DecidableEq,Inhabited
inductive cE where
 |cells (st:qW) (cs:List AV)
 |map (st:qW) (keys aBX:List AV)
 |iF (s:List UInt8) (pos:Nat)
 |loop (st:LoopState) (pending:Option Code) (ts:List AV) (params:List Nat) (assign body:Code)
 deriving Inhabited
abbrev Hp:=List cE
structure sk where
 cD:TypeDesc
 isAgg:Bool
 size:Nat
 bytes:Nat
 zero:Option (List AV)
 dK:Bool
 deriving Inhabited
structure FnI where
 code:Code
 ntmps:Nat
 results:List ResultVar
 pure:Bool
 eD:Bool
 deriving Inhabited
structure Env where
 ty:Nat->Option sk
 fn:Nat->Option FnI
 glob:Nat->Option (List AV)
 ov:Nat->List AV->Option AV
 rH:Nat->List AV->Hp->Option (AV×Hp)
 pairs:Nat->Nat->List (Nat×Nat)
def bT:AV:=.tuple []
def AV.cells:AV->List AV
 |.agg cs=>cs
 |v=>[v]
def e9{α β:Type}(f:α->Option β):List α->Option (List β)
 |[]=>some []
 |x::xs=>match f x with
  |none=>none
  |some y=>match e9 f xs with
   |none=>none
   |some ys=>some (y::ys)
def cN:AV->Bool
 |.agg _|.tuple _=>false
 |_=>true
def Bb:Nat->Value->Option AV
 |0,_=>none
 |n+1,v=>match v with
  |.bool b=>some (.bool b)
  |.int k n=>some (.int k n)
  |.string s=>some (.str s.data.toList)
  |.pointer none=>some .gQ
  |.slice none 0 0=>some .aH
  |.map none=>some .gb
  |.nilFunc=>some .fR
  |.nilIface=>some .nilIface
  |.agg cs=>(e9 (Bb n) cs.toList).map .agg
  |.tuple cs=>(e9 (Bb n) cs.toList).map .tuple
  |.iface t v=>(Bb n v).map (.iface t)
  |_=>none
def an5(v:Value):Option AV:=Bb 20 v
mutual
def aU:AV->Bool
 |.bK .. |.aI .. |.eR _|.yield _=>false
 |.agg cs=>aV cs
 |.tuple cs=>aV cs
 |.iface _ v=>aU v
 |.func _ a b=>aV a&&aV b
 |_=>true
def aV:List AV->Bool
 |[]=>true
 |x::xs=>aU x&&aV xs
end
def bQ:AV->Bool
 |.bool _|.int .. |.str _|.gQ|.aH|.dw|.gb|.fR|.nilIface=>true
 |.agg cs=>uh cs
 |.tuple cs=>uh cs
 |_=>false
where
 uh:List AV->Bool
 |[]=>true
 |x::xs=>bQ x&&uh xs
def fz(H:Hp):Nat->AV->Option (AV×List Nat)
 |0,_=>none
 |n+1,av=>
  let l (cs:List AV):Option (List AV×List Nat):=(e9 (fz H n) cs).map fun r=>(r.map (·.1),r.flatMap (·.2))
  match av with
  |.bK b off=>match H[b]? with
   |some (.cells st cs)=>if st=.dead then none else(l cs).map fun(c,bs)=>(.cS c off,b::bs)
   |_=>none
  |.aI b off len esz _=>match H[b]? with
   |some (.cells st cs)=>if st=.dead||cs.length<off+len*esz then none else
    (l ((cs.drop off).take (len*esz))).map fun(c,bs)=>(.aK c len,b::bs)
   |_=>none
  |.eR b=>match H[b]? with
   |some (.map st ks vs)=>if st=.dead then none else match l ks,l vs with
    |some (k,b1),some (v,b2)=>some (.vV k v,b::(b1++b2))
    |_,_=>none
   |_=>none
  |.agg cs=>(l cs).map fun(c,bs)=>(.agg c,bs)
  |.tuple cs=>(l cs).map fun(c,bs)=>(.tuple c,bs)
  |.iface t v=>(fz H n v).map fun(c,bs)=>(.iface t c,bs)
  |.func f a c=>match l a,l c with
   |some (a,b1),some (c,b2)=>some (.func f a c,b1++b2)
   |_,_=>none
  |.yield _=>none
  |v=>some (v,[])
def cE.j8:cE->cE
 |.cells .live cs=>.cells .ro cs
 |.map .live ks vs=>.map .ro ks vs
 |b=>b
def mark(H:Hp)(bs:List Nat):Hp:=bs.foldl (fun H b=>H.modify b cE.j8) H
def bX(H:Hp)(vs:List AV):Option (List AV×List Nat):=
 if aV vs then some (vs,[])else
 match e9 (fz H 40) vs with
 |none=>none
 |some r=>some (r.map (·.1),r.flatMap (·.2))
inductive cF where
 |bJ (l:List (Nat×cE))
 |marks (l:List Nat)
 |looks (l:List Nat)
 |Ep (H:Hp)
def cO(H:Hp)(b:Nat)(x:cE):Hp:=if b<H.length then H.set b x else H++[x]
def cF.app(H:Hp):cF->Hp
 |.bJ l=>l.foldl (fun H p=>cO H p.1 p.2) H
 |.marks l=>mark H l
 |.looks _=>H
 |.Ep H'=>H'
def aW(k:IntKind)(n:Int):Int:=k.wrap n
def k8(op:BinOp)(k:IntKind)(a b:Int):Option AV:=
 match op with
 |.add=>some (.int k (aW k (a+b)))
 |.sub=>some (.int k (aW k (a-b)))
 |.mul=>some (.int k (aW k (a*b)))
 |.quo=>if b=0 then none else some (.int k (aW k (a.tdiv b)))
 |.rem=>if b=0 then none else some (.int k (a.tmod b))
 |.and=>some (.int k (aW k (BitVec.ofInt k.bits a&&&BitVec.ofInt k.bits b).toNat))
 |.or=>some (.int k (aW k (BitVec.ofInt k.bits a|||BitVec.ofInt k.bits b).toNat))
 |.xor=>some (.int k (aW k (BitVec.ofInt k.bits a^^^BitVec.ofInt k.bits b).toNat))
 |.andNot=>some (.int k (aW k (BitVec.ofInt k.bits a&&& ~~~BitVec.ofInt k.bits b).toNat))
 |.eql=>some (.bool (a==b))
 |.neq=>some (.bool (a !=b))
 |.lss=>some (.bool (a<b))
 |.leq=>some (.bool (a<=b))
 |.gtr=>some (.bool (a>b))
 |.geq=>some (.bool (a≥b))
 |_=>none
def Lr(op:BinOp)(a b:List UInt8):Option AV:=
 match op with
 |.add=>if((a.length+b.length:Nat):Int)>9223372036854775807 then none else some (.str (a++b))
 |.eql=>some (.bool (a==b))
 |.neq=>some (.bool (!(a==b)))
 |.lss=>some (.bool (Op.bytesLess a b))
 |.leq=>some (.bool (Op.bytesLess a b||a==b))
 |.gtr=>some (.bool (!(Op.bytesLess a b||a==b)))
 |.geq=>some (.bool (!Op.bytesLess a b))
 |_=>none
def eS(E:Env)(t:Nat)(cs:List AV)(off:Nat):Option AV:=
 match E.ty t with
 |none=>none
 |some i=>if i.isAgg then(if off+i.size<=cs.length then some (.agg ((cs.drop off).take i.size))else none)else cs[off]?
def eqFields(E:Env)(eq:Nat->AV->AV->Option Bool)(xs ys:List AV):List Field->Option Bool
 |[]=>some true
 |f::fs=>
  if f.name= "_" then none else
  match eS E f.type xs f.offset,eS E f.type ys f.offset with
  |some a,some b=>match eq f.type a b with
   |some true=>eqFields E eq xs ys fs
   |some false=>some false
   |none=>none
  |_,_=>none
def lz(E:Env)(eq:Nat->AV->AV->Option Bool)(elem size:Nat)(xs ys:List AV):Nat->Nat->Option Bool
 |0,_=>some true
 |m+1,i=>
  match eS E elem xs (i*size),eS E elem ys (i*size)with
  |some a,some b=>match eq elem a b with
   |some true=>lz E eq elem size xs ys m (i+1)
   |some false=>some false
   |none=>none
  |_,_=>none
def nP(E:Env):Nat->Nat->AV->AV->Option Bool
 |0,_,_,_=>none
 |n+1,t,x,y=>
  match E.ty t with
  |none=>none
  |some i=>
  match i.cD,x,y with
  |.bool,.bool a,.bool b=>some (a==b)
  |.int _,.int k a,.int k' b=>if k=k' then some (a==b)else none
  |.string,.str a,.str b=>some (a==b)
  |.struct fields,.agg xs,.agg ys=>if !i.dK then none else eqFields E (nP E n) xs ys fields.toList
  |.array len elem,.agg xs,.agg ys=>match E.ty elem with
   |none=>none
   |some ei=>lz E (nP E n) elem ei.size xs ys len 0
  |.pointer _,.gQ,.gQ=>some true
  |.pointer _,.gQ,.bK .. |.pointer _,.gQ,.cS .. |.pointer _,.bK ..,.gQ|.pointer _,.cS ..,.gQ=>some false
  |.slice _,.aH,.aH=>some true
  |.slice _,.aH,.aI .. |.slice _,.aH,.aK .. |.slice _,.aH,.dw
  |.slice _,.aI ..,.aH|.slice _,.aK ..,.aH|.slice _,.dw,.aH=>some false
  |.map _ _,.gb,.gb=>some true
  |.map _ _,.gb,.eR _|.map _ _,.gb,.vV .. |.map _ _,.eR _,.gb|.map _ _,.vV ..,.gb=>some false
  |.func _ _ _,.fR,.fR=>some true
  |.func _ _ _,.fR,.func .. |.func _ _ _,.func ..,.fR=>some false
  |.interface _,.nilIface,.nilIface=>some true
  |.interface _,.nilIface,.iface .. |.interface _,.iface ..,.nilIface=>some false
  |_,_,_=>none
def cp(E:Env)(c:Bool)(op:BinOp)(t:Nat)(x y:AV):Option AV:=
 match op,x,y with
 |.shl,.int k a,.int _ b=>if b<0 then none else some (.int k (aW k (a*2^(min b.toNat k.bits))))
 |.shr,.int k a,.int _ b=>if b<0 then none else some (.int k (a.fdiv (2^(min b.toNat k.bits))))
 |op,.int k a,.int k' b=>if k≠k' then none else k8 op k a b
 |op,.str a,.str b=>Lr op a b
 |.eql,x,y=>(sa x y).bind fun ok=>if ok then(nP E 20 t x y).map .bool else none
 |.neq,x,y=>(sa x y).bind fun ok=>if ok then(nP E 20 t x y).map (fun b=>.bool (!b))else none
 |_,_,_=>none
where
 sa (x y:AV):Option Bool:=match x,y with
  |.agg _,.agg _=>(E.ty t).map (·.dK)
  |.nilIface,.nilIface=>some c
  |_,_=>some true
def T1(op:UnOp)(x:AV):Option AV:=
 match op,x with
 |.neg,.int k n=>some (.int k (aW k (0-n)))
 |.xor,.int k n=>k8 .xor k (if k.signed then-1 else k.max) n
 |.not,.bool b=>some (.bool !b)
 |_,_=>none
def fP(place:Nat->Option (Nat×Nat))(cells:List AV):List (Nat×AV)->Option (List AV)
 |[]=>some cells
 |(i,v)::rest=>
  match place i with
  |none=>none
  |some (off,size)=>
   if v.cells.length≠size||off+size>cells.length then none
   else fP place (cells.take off++v.cells++cells.drop (off+size)) rest
def gJ(zero:List AV):Nat->List AV
 |0=>[]
 |n+1=>zero++gJ zero n
def fB(E:Env)(t:Nat):Option (Nat->Option (Nat×Nat)):=
 match E.ty t with
 |some {cD:=.struct fields,..}=>if fields.toList.all (fun f=>(E.ty f.type).isSome)then some fun i=>match fields[i]? with
  |some f=>(E.ty f.type).map fun fi=>(f.offset,fi.size)
  |none=>none
  else none
 |some {cD:=.array _ elem,..}=>(E.ty elem).map fun ei=>fun i=>some (i*ei.size,ei.size)
 |_=>none
def yL(E:Env)(H:Hp):AV->Option (List AV×Nat)
 |.bK b off=>match H[b]? with
  |some (.cells st cs)=>if st=.dead then none else some (cs,off)
  |_=>none
 |.cS cs off=>some (cs,off)
 |.ie g off=>(E.glob g).map fun cs=>(cs,off)
 |_=>none
def dU(E:Env)(H:Hp)(t:Nat)(p:AV):Option AV:=
 match yL E H p with
 |some (cs,off)=>eS E t cs off
 |none=>none
def dA(cs:List AV)(off:Nat)(xs:List AV):List AV:=cs.take off++xs++cs.drop (off+xs.length)
def fh(E:Env)(H:Hp)(t:Nat)(p v:AV):Option (List (Nat×cE)):=
 match p,E.ty t with
 |.bK b off,some i=>match H[b]? with
  |some (.cells .live cs)=>
   if v.cells.length≠i.size||off+i.size>cs.length||!v.cells.all cN then none
   else some [(b,.cells .live (dA cs off v.cells))]
  |_=>none
 |_,_=>none
def asNat(nD:Nat):AV->Option Nat
 |.int _ n=>if 0<=n/\n<=nD then some n.toNat else none
 |_=>none
def hiE(len kc:Nat):Option AV->Option Nat
 |none=>some len
 |some v=>asNat kc v
def loE(h:Nat):Option AV->Option Nat
 |none=>some 0
 |some v=>asNat h v
def fN(len kc:Nat)(lo hi:Option AV):Option (Nat×Nat):=
 match hiE len kc hi with
 |none=>none
 |some h=>match loE h lo with
  |none=>none
  |some l=>some (l,h)
def gg(E:Env)(t:Nat)(x:AV)(lo hi:Option AV):Option AV:=
 match E.ty t with
 |none=>none
 |some i=>
 match i.cD,x with
 |.string,.str s=>(fN s.length s.length lo hi).map fun(l,h)=>.str ((s.drop l).take (h-l))
 |.slice e,.aH=>match E.ty e,fN 0 0 lo hi with
  |some _,some _=>some .aH
  |_,_=>none
 |.slice e,.dw=>match E.ty e,fN 0 0 lo hi with
  |some _,some _=>some .dw
  |_,_=>none
 |.slice e,.aI b off len esz kc=>match E.ty e,fN len kc lo hi with
  |some ei,some (l,h)=>if ei.size≠esz then none
   else if l=0 then some (.aI b off h esz kc)
   else if l=h then some .dw
   else some (.aI b (off+l*esz) (h-l) esz (kc-l))
  |_,_=>none
 |.slice e,.aK cs len=>match E.ty e,fN len len lo hi with
  |some ei,some (l,h)=>
   if l=h then some .dw
   else some (.aK ((cs.drop (l*ei.size)).take ((h-l)*ei.size)) (h-l))
  |_,_=>none
 |_,_=>none
def gY(E:Env)(H:Hp)(t:Nat)(p:AV)(lo hi:Option AV):Option AV:=
 match E.ty t with
 |some {cD:=.array n e,..}=>match E.ty e,fN n n lo hi with
  |some ei,some (l,h)=>
   match p with
   |.bK b off=>match H[b]? with
    |some (.cells st cs)=>if st=.dead∨cs.length<off+n*ei.size∨cs.length=0 then none else
     if l=h then some .dw else some (.aI b (off+l*ei.size) (h-l) ei.size (n-l))
    |_=>none
   |.cS cs off=>if l=h then some .dw else some (.aK ((cs.drop (off+l*ei.size)).take ((h-l)*ei.size)) (h-l))
   |_=>none
  |_,_=>none
 |_=>none
def cd(E:Env)(t:Nat)(x ix:AV):Option AV:=
 match E.ty t,ix with
 |some i,.int _ n=>
  match i.cD with
  |.array len e=>match E.ty e with
   |some ei=>if 0<=n/\n<len then(match x with
    |.bK b off=>some (.bK b (off+n.toNat*ei.size))
    |.cS cs off=>some (.cS cs (off+n.toNat*ei.size))
    |.ie g off=>some (.ie g (off+n.toNat*ei.size))
    |_=>none)else none
   |none=>none
  |.slice e=>match E.ty e with
   |some ei=>(match x with
    |.aI b off len esz _=>if esz=ei.size/\0<=n/\n<len then some (.bK b (off+n.toNat*esz))else none
    |.aK cs len=>if 0<=n/\n<len then some (.cS cs (n.toNat*ei.size))else none
    |_=>none)
   |none=>none
  |_=>none
 |_,_=>none
def lF(E:Env)(t:Nat)(x ix:AV):Option AV:=
 match E.ty t,ix with
 |some i,.int _ n=>
  match i.cD,x with
  |.array len e,.agg cs=>match E.ty e with
   |some ei=>if 0<=n/\n<len then eS E e cs (n.toNat*ei.size)else none
   |none=>none
  |.string,.str s=>if 0<=n then(s[n.toNat]?).map fun b=>.int .u8 b.toNat else none
  |_,_=>none
 |_,_=>none
def cQ(E:Env)(t:Nat)(x:AV)(f:Nat):Option AV:=
 match E.ty t with
 |some {cD:=.struct fields,..}=>match fields[f]? with
  |some fd=>match E.ty fd.type with
   |some fi=>if fi.size=0 then none else(match x with
    |.bK b off=>some (.bK b (off+fd.offset))
    |.cS cs off=>some (.cS cs (off+fd.offset))
    |.ie g off=>some (.ie g (off+fd.offset))
    |_=>none)
   |none=>none
  |none=>none
 |_=>none
def CF(E:Env)(t:Nat)(x:AV)(f:Nat):Option AV:=
 match E.ty t,x with
 |some {cD:=.struct fields,..},.agg cs=>match fields[f]? with
  |some fd=>eS E fd.type cs fd.offset
  |none=>none
 |_,_=>none
def Cn(E:Env)(src dst:Nat)(x:AV):Option AV:=
 match E.ty src,E.ty dst,x with
 |some _,some {cD:=.int k,..},.int _ n=>some (.int k (aW k n))
 |some _,some {cD:=.string,..},.str s=>some (.str s)
 |_,_,_=>none
def zA:List AV->Option (List UInt8)
 |[]=>some []
 |.int .u8 n::cs=>(zA cs).map (UInt8.ofNat n.toNat::·)
 |_=>none
def iI(H:Hp)(esz:Nat):AV->Option (List AV)
 |.aH|.dw=>some []
 |.aK cs len=>if cs.length=len*esz then some cs else none
 |.aI b off len e _=>if e≠esz then none else match H[b]? with
  |some (.cells st cs)=>if st=.dead∨cs.length<off+len*esz then none else some ((cs.drop off).take (len*esz))
  |_=>none
 |_=>none
def mU:AV->Option Nat
 |.aH|.dw=>some 0
 |.aK _ n=>some n
 |.aI _ _ n _ _=>some n
 |.str s=>some s.length
 |_=>none
def plainKey(E:Env):Nat->Nat->Bool
 |0,_=>false
 |n+1,t=>match E.ty t with
  |some i=>(match i.cD with
   |.int _|.string|.bool=>true
   |.array _ e=>plainKey E n e
   |.struct fs=>i.dK&&fs.toList.all fun f=>plainKey E n f.type
   |_=>false)
  |none=>false
def jk(E:Env)(kt:Nat)(k x:AV):Option Bool:=nP E 20 kt k x
def HM:Nat->AV->AV->Bool
 |_,.bool a,.bool b=>a==b
 |_,.int k a,.int j b=>k==j&&a==b
 |_,.str a,.str b=>a==b
 |n+1,.agg xs,.agg ys=>xs.length==ys.length&&(xs.zip ys).all fun(x,y)=>HM n x y
 |_,_,_=>false
def pK(eq:AV->AV->Option Bool)(k:AV):List AV->List AV->Nat->Option (Option (Nat×AV))
 |x::xs,v::vs,i=>match eq k x with
  |some true=>some (some (i,v))
  |some false=>pK eq k xs vs (i+1)
  |none=>none
 |[],[],_=>some none
 |_,_,_=>none
def ek(E:Env)(t:Nat):Option AV:=
 match E.ty t with
 |some i=>match i.zero with
  |some cs=>if i.isAgg then some (.agg cs)else(match cs with|[c]=>some c|_=>none)
  |none=>none
 |none=>none
def Hq(H:Hp):AV->Option (List AV×List AV)
 |.gb=>some ([],[])
 |.vV ks vs=>some (ks,vs)
 |.eR b=>match H[b]? with
  |some (.map st ks vs)=>if st=.dead then none else some (ks,vs)
  |_=>none
 |_=>none
def jU(E:Env)(H:Hp)(t:Nat)(m k:AV)(ok:Bool):Option AV:=
 match E.ty t with
 |some {cD:=.map kt et,..}=>match Hq H m with
  |some (ks,vs)=>if !plainKey E 20 kt||jk E kt k k !=some true then none else match pK (jk E kt) k ks vs 0 with
   |some (some (_,v))=>some (if ok then .tuple [v,.bool true]else v)
   |some none=>(ek E et).map fun z=>if ok then .tuple [z,.bool false]else z
   |none=>none
  |none=>none
 |_=>none
def fV(E:Env)(H:Hp)(t:Nat)(m k v:AV):Option (List (Nat×cE)):=
 match E.ty t,m with
 |some {cD:=.map kt _,..},.eR b=>match H[b]? with
  |some (.map .live ks vs)=>if !plainKey E 20 kt then none else match jk E kt k k,pK (jk E kt) k ks vs 0 with
   |some true,some (some (i,_))=>(match ks[i]? with
    |some k0=>if HM 20 k0 k then some [(b,.map .live ks (vs.set i v))]else none
    |none=>none)
   |some true,some none=>some [(b,.map .live (ks++[k]) (vs++[v]))]
   |_,_=>none
  |_=>none
 |_,_=>none
def fH:Nat:=140737488355328
def fp(E:Env)(aR:Nat)(t:Nat)(l c:AV):Option (AV×List (Nat×cE)):=
 match E.ty t,l,c with
 |some {cD:=.slice e,..},.int _ n,.int _ m=>match E.ty e with
  |some ei=>match ei.zero with
   |some z=>
    if 0<=n/\n<=m/\m.toNat*ei.bytes<=fH/\m<=4611686018427387904/\z.length=ei.size/\0<ei.size then
     some (.aI aR 0 n.toNat ei.size m.toNat,[(aR,.cells .live (gJ z m.toNat))])
    else none
   |none=>none
  |none=>none
 |_,_,_=>none
def oM(H:Hp)(esz:Nat)(x:AV):Option (List AV):=
 match x with
 |.str b=>if esz=1 then some (b.map fun(c:UInt8)=>AV.int .u8 c.toNat)else none
 |x=>iI H esz x
def sD(H:Hp)(ei:sk)(iz:Bool)(x:AV):Option (Nat×List AV):=
 if iz then(match x,ei.zero with
  |.int _ n,some z=>if 0<=n/\n<=4611686018427387904/\n.toNat*ei.bytes<=fH/\z.length=ei.size then some (n.toNat,gJ z n.toNat)else none
  |_,_=>none)
 else(match mU x,oM H ei.size x with
  |some n,some xs=>some (n,xs)
  |_,_=>none)
def er(E:Env)(H:Hp)(aR:Nat)(iz:Bool)(t:Nat)(s x:AV):Option (AV×List (Nat×cE)):=
 match E.ty t with
 |some {cD:=.slice e,..}=>match E.ty e with
  |some ei=>
   match sD H ei iz x with
   |some (n,xs)=>
    if n=0 then(match s with|.aH|.dw|.aI .. |.aK .. =>some (s,[])|_=>none)else
    if ei.size=0||!xs.all cN||ei.zero.isNone then none else
    match s with
    |.aH=>
     if n*ei.bytes<=fH/\n<=4611686018427387904 then some (.aI aR 0 n ei.size n,[(aR,.cells .live xs)])else none
    |.aI b off len esz kc=>match H[b]? with
     |some (.cells .live cs)=>
      if len+n<=kc then(if esz=ei.size/\off+(len+n)*esz<=cs.length then
       some (.aI b off (len+n) esz kc,[(b,.cells .live (dA cs (off+len*esz) xs))])else none)else
      if esz=ei.size/\off+len*esz<=cs.length/\(len+n)*ei.bytes<=fH/\len+n<=4611686018427387904 then
       some (.aI aR 0 (len+n) esz (len+n),[(b,.cells .dead []),(aR,.cells .live ((cs.drop off).take (len*esz)++xs))])
      else none
     |_=>none
    |_=>none
   |none=>none
  |none=>none
 |_=>none
def kT(E:Env)(aR:Nat)(t:Nat)(s x:AV):Option (AV×List (Nat×cE)):=
 match E.ty t,s,x with
 |some {cD:=.slice e,..},.aH,.int _ n=>match E.ty e with
  |some ei=>match ei.zero with
   |some z=>
    if 0<n/\n<=4611686018427387904/\n.toNat*ei.bytes<=fH/\z.length=ei.size/\0<ei.size/\0<ei.bytes then
     some (.aI aR 0 n.toNat ei.size n.toNat,[(aR,.cells .live (gJ z n.toNat))])
    else none
   |none=>none
  |none=>none
 |_,_,_=>none
def td(E:Env)(H:Hp)(t:Nat)(d x:AV):Option (AV×List (Nat×cE)):=
 match E.ty t with
 |some {cD:=.slice e,..}=>match E.ty e with
  |some ei=>
   match mU d,mU x,oM H ei.size x with
   |some dn,some xn,some xs=>
    let n:=min xn dn
    if n=0 then(match d with|.aH|.dw|.aI .. =>some (.int .i64 0,[])|_=>none)else
    match d with
    |.aI b off _ esz _=>match H[b]? with
     |some (.cells .live cs)=>
      if esz=ei.size/\off+n*esz<=cs.length/\xs.all cN then
       some (.int .i64 n,[(b,.cells .live (dA cs off (xs.take (n*esz))))])
      else none
     |_=>none
    |_=>none
   |_,_,_=>none
  |none=>none
 |_=>none
def nC(E:Env)(H:Hp)(t:Nat)(x:AV):Option AV:=
 match E.ty t,x with
 |some {cD:=.string,..},.str s=>some (.int .i64 s.length)
 |some {cD:=.array n _,..},_=>some (.int .i64 n)
 |some {cD:=.slice _,..},.aH=>some (.int .i64 0)
 |some {cD:=.slice _,..},.dw=>some (.int .i64 0)
 |some {cD:=.slice _,..},.aK _ n=>some (.int .i64 n)
 |some {cD:=.slice _,..},.aI _ _ n _ _=>some (.int .i64 n)
 |some {cD:=.map _ _,..},m=>(Hq H m).map fun(ks,_)=>.int .i64 ks.length
 |_,_=>none
def AK:AV->AV->Option AV
 |.int k x,.int k' y=>if k=k' then some (.int k (if y>x then y else x))else none
 |_,_=>none
def KD:AV->AV->Option AV
 |.int k x,.int k' y=>if k=k' then some (.int k (if y<x then y else x))else none
 |_,_=>none
def qC(f:AV->AV->Option AV)(x:AV):List AV->Option AV
 |[]=>some x
 |y::ys=>match f x y with
  |some z=>qC f z ys
  |none=>none
def bM(E:Env)(H:Hp)(aR:Nat)(b:Builtin)(ats:List Nat)(args:List AV):Option (AV×List (Nat×cE)):=
 match b,ats,args with
 |.append,t::u::_,s::x::_=>(match E.ty u with
  |some {cD:=.int _,..}=>kT E aR t s x
  |some _=>er E H aR false t s x
  |none=>none)
 |.copy,t::_,d::x::_=>td E H t d x
 |.cap,t::_,.aH::_=>(match E.ty t with
  |some {cD:=.slice _,..}=>some (.int .i64 0,[])
  |_=>none)
 |.len,t::_,x::_=>(nC E H t x).map fun v=>(v,[])
 |.max,_,x::xs=>(qC AK x xs).map fun v=>(v,[])
 |.min,_,x::xs=>(qC KD x xs).map fun v=>(v,[])
 |_,_,_=>none
inductive Cls where
 |n|r|s|w
 deriving DecidableEq,Repr
def bW(E:Env)(o:Oper):Bool:=
 match o.op with
 |.alloc _|.box .. |.buildSlice .. |.makeMap .. |.makeSlice .. |.range .. =>true
 |.convert s d _=>(match E.ty s,E.ty d with
  |some {cD:=.string,..},some {cD:=.slice _,..}=>true
  |_,_=>false)
 |.call c=>(match c.callee with
  |.builtin .append=>true
  |_=>false)
 |_=>false
def iJ(E:Env)(o:Oper):Cls:=
 match o.op with
 |.move _|.assign _|.pick .. |.build .. |.nilCheck _|.binOp .. |.unOp .. |.makeInterface .. |.makeFunc ..
 |.fieldAddr .. |.field .. |.indexAddr .. |.index .. |.extract .. |.sliceToArrayPointer .. =>.n
 |.load .. |.lookup .. =>.r
 |.slice t _ _ _ _=>(match E.ty t with
  |some {cD:=.array ..,..}=>.r
  |_=>.n)
 |.alloc _|.box .. |.buildSlice .. |.makeMap .. |.makeSlice .. |.range .. |.next .. |.store .. |.mapUpdate .. |.insert .. =>.s
 |.convert s d _=>(match E.ty s,E.ty d with
  |some {cD:=.string,..},some {cD:=.slice _,..}=>.s
  |_,_=>.r)
 |.call c=>(match c.callee with
  |.builtin .len=>.r
  |.builtin .max|.builtin .min|.builtin .cap=>.n
  |.builtin .copy|.builtin .append=>.s
  |.value (.func f)=>(match E.fn f with
   |some {pure:=false,eD:=false,..}=>.w
   |_=>.r)
  |_=>.w)
 |_=>.w
def Gf(ops:Array Oper)(j:Nat):Nat->Nat->Bool
 |0,_=>false
 |n+1,i=>match ops[i]? with
  |some o=>o.after.any fun e=>Region.binds .any e&&(e.on==j||(e.on<i&&Gf ops j n e.on))
  |none=>false
def yw(o:Oper):Bool:=match o.op with
 |.load .. =>true
 |_=>false
def XU(E:Env)(o:Oper):Bool:=match o.op with
 |.call c=>(match c.callee with
  |.value (.func f)=>(match E.fn f with
   |some {pure:=false,eD:=false,..}=>true
   |_=>false)
  |_=>false)
 |_=>false
def WR(E:Env)(ps:List (Nat×Nat))(j i:Nat)(oj oi:Oper):Bool:=
 match iJ E oj,iJ E oi with
 |.n,_|_,.n|.r,.r=>true
 |.r,.w=>yw oj&&XU E oi
 |.w,_|_,.w=>false
 |_,_=>ps.contains (j,i)
def yI(E:Env)(ps:List (Nat×Nat))(ops:Array Oper):Bool:=
 (List.range ops.size).all fun i=>match ops[i]? with
  |some oi=>(oi.after.all fun e=>!Region.binds .any e||e.on<i)&&(List.range i).all fun j=>
    match ops[j]? with
    |some oj=>(oi.apart ops oj&&WR E ps j i oj oi)||Gf ops j ops.size i
    |none=>true
  |none=>true
def flat:Code->Bool
 |.rangeFunc .. =>false
 |.seq a b=>flat a&&flat b
 |.cond _ a b=>flat a&&flat b
 |.block _ a=>flat a
 |.loop a=>flat a
 |.scope a=>flat a
 |_=>true
def codeOk(E:Env):Code->Bool
 |.region id ops draw=>!draw||yI E (E.pairs id ops.size) ops
 |.seq a b=>codeOk E a&&codeOk E b
 |.cond _ a b=>codeOk E a&&codeOk E b
 |.block _ a=>codeOk E a
 |.loop a=>codeOk E a
 |.rangeFunc _ _ a b=>codeOk E a&&codeOk E b&&flat a&&flat b
 |.scope a=>codeOk E a
 |_=>true
abbrev Pc:=Nat->List AV->Option AV
abbrev Ic:=Nat->List AV->Hp->Option (AV×Hp)
def bU(tmps:List AV):Operand->Option AV
 |.tmp t=>some (tmps[t]?.getD bT)
 |.const v=>an5 v
 |.func f=>some (.func f [] [])
 |.global g=>some (.ie g 0)
def kr(tmps:List AV):List Operand->Option (List AV)
 |[]=>some []
 |x::xs=>match bU tmps x with
  |none=>none
  |some v=>match kr tmps xs with
   |none=>none
   |some vs=>some (v::vs)
def sJ(tmps:List AV):List (Nat×Operand)->Option (List (Nat×AV))
 |[]=>some []
 |(i,x)::xs=>match bU tmps x with
  |none=>none
  |some v=>match sJ tmps xs with
   |none=>none
   |some vs=>some ((i,v)::vs)
def gq(tmps:List AV):Option Operand->Option (Option AV)
 |none=>some none
 |some x=>(bU tmps x).map some
def sf(H h:Hp):Bool:=@decide (∀b,b<H.length->h[b]?=H[b]?) (Classical.propDecidable _)
def ke(E:Env)(pc:Pc)(ic yc:Ic)(dr:Bool)(H:Hp)(fv:AV)(args:List AV):Option (AV×cF):=
 match fv with
 |.yield l=>(yc l args H).map fun(v,h)=>(v,.Ep h)
 |.func f first cap=>
  let all:=first++args++cap
  let ahY:Bool:=match E.fn f with
   |some {pure:=false,eD:=d,..}=>d&&dr
   |_=>true
  if ahY then
   match bX H all with
   |some (a_,bs)=>(pc f a_).map fun v=>(v,if bQ v then .looks bs else .marks bs)
   |none=>none
  else match ic f all H with
   |some (v,h)=>if dr&&!sf H h then none else some (v,.Ep h)
   |none=>none
 |_=>none
def bC:Operand->Bool
 |.const _=>true
 |_=>false
def mS:Operand->Bool
 |.func _=>true
 |_=>false
def dH(E:Env)(pc:Pc)(ic yc:Ic)(dr:Bool)(ts:List AV)(H:Hp)(aR:Nat)(o:Oper):Option (AV×cF):=
 let v (r:Option AV):Option (AV×cF):=r.map fun x=>(x,.bJ [])
 let u (r:Option (List (Nat×cE))):Option (AV×cF):=r.map fun l=>(bT,.bJ l)
 let b (r:Option (AV×List (Nat×cE))):Option (AV×cF):=r.map fun(x,l)=>(x,.bJ l)
 match o.op with
 |.move x|.assign x=>v (bU ts x)
 |.pick c a b=>(match bU ts c with
  |some (.bool t)=>v (bU ts (if t then a else b))
  |_=>none)
 |.alloc t=>b ((ek E t).map fun z=>(.bK aR 0,[(aR,.cells .live z.cells)]))
 |.box _ x=>b ((bU ts x).map fun z=>(.bK aR 0,[(aR,.cells .live z.cells)]))
 |.build t ps=>(match fB E t,(E.ty t).bind (·.zero),sJ ts ps.toList with
  |some pl,some z,some vs=>v ((fP pl z vs).map .agg)
  |_,_,_=>none)
 |.buildSlice t len ps=>(match E.ty t with
  |some {cD:=.slice e,..}=>(match E.ty e with
   |some ei=>(match ei.zero,sJ ts ps.toList with
    |some z,some vs=>if z.length=ei.size/\0<ei.size/\len*ei.size<=16777216 then
      b ((fP (fun i=>some (i*ei.size,ei.size)) (gJ z len) vs).map fun cs=>
       (.aI aR 0 len ei.size len,[(aR,.cells .live cs)]))
     else none
    |_,_=>none)
   |none=>none)
  |_=>none)
 |.load t a=>(match bU ts a with|some p=>v (dU E H t p)|none=>none)
 |.store t a x=>(match bU ts a,bU ts x with|some p,some z=>u (fh E H t p z)|_,_=>none)
 |.nilCheck x=>(match bU ts x with
  |some (.bK b off)=>v (some (.bK b off))
  |some (.cS cs off)=>v (some (.cS cs off))
  |some (.ie g off)=>v (some (.ie g off))
  |some (.func f a b)=>v (some (.func f a b))
  |some (.yield l)=>v (some (.yield l))
  |_=>none)
 |.binOp op t x y _=>(match bU ts x,bU ts y with|some a,some b=>v (cp E (bC x||bC y) op t a b)|_,_=>none)
 |.unOp op _ x=>(match bU ts x with|some a=>v (T1 op a)|none=>none)
 |.convert s d x=>(match bU ts x,E.ty s,E.ty d with
  |some (.str _),some {cD:=.string,..},some {cD:=.slice _,..}=>none
  |some x,some {cD:=.slice e,..},some {cD:=.string,..}=>(match E.ty e,iI H 1 x with
   |some {cD:=.int .u8,size:=1,..},some cs=>v ((zA cs).map .str)
   |_,_=>none)
  |some x,_,_=>v (Cn E s d x)
  |_,_,_=>none)
 |.makeInterface t x=>(match E.ty t with
  |some i=>(match i.cD with
   |.interface _=>none
   |_=>v ((bU ts x).map (.iface t)))
  |none=>none)
 |.makeFunc (.func f) first cap=>(match kr ts first.toList,kr ts cap.toList with
  |some a,some c=>v (some (.func f a c))
  |_,_=>none)
 |.makeMap t r=>(match E.ty t,gq ts r with
  |some {cD:=.map _ _,..},some none=>b (some (.eR aR,[(aR,.map .live [] [])]))
  |some {cD:=.map _ _,..},some (some (.int _ _))=>b (some (.eR aR,[(aR,.map .live [] [])]))
  |_,_=>none)
 |.makeSlice t l c=>(match bU ts l,bU ts c with|some x,some y=>b (fp E aR t x y)|_,_=>none)
 |.slice t x lo hi mx=>(match bU ts x,gq ts lo,gq ts hi,mx with
  |some a,some l,some h,none=>(match E.ty t with
   |some {cD:=.array ..,..}=>v (gY E H t a l h)
   |_=>v (gg E t a l h))
  |_,_,_,_=>none)
 |.fieldAddr t x f=>(match bU ts x with|some a=>v (cQ E t a f)|none=>none)
 |.field t x f=>(match bU ts x with|some a=>v (CF E t a f)|none=>none)
 |.indexAddr t x i=>(match bU ts x,bU ts i with|some a,some b=>v (cd E t a b)|_,_=>none)
 |.index t x i=>(match bU ts x,bU ts i with|some a,some b=>v (lF E t a b)|_,_=>none)
 |.lookup t x i ok=>(match bU ts x,bU ts i with|some a,some b=>v (jU E H t a b ok)|_,_=>none)
 |.mapUpdate t m k x|.insert t m k x=>(match bU ts m,bU ts k,bU ts x with
  |some a,some b,some c=>u (fV E H t a b c)
  |_,_,_=>none)
 |.sliceToArrayPointer t x=>(match E.ty t,bU ts x with
  |some {cD:=.array n _,..},some (.aI b off len _ _)=>if len<n then none else v (some (.bK b off))
  |some {cD:=.array n _,..},some (.aK cs len)=>if len<n then none else v (some (.cS cs 0))
  |_,_=>none)
 |.range t x=>(match E.ty t,bU ts x with
  |some {cD:=.string,..},some (.str z)=>b (some (.bK aR 0,[(aR,.iF z 0)]))
  |_,_=>none)
 |.next it true=>(match bU ts it with
  |some (.bK i 0)=>(match H[i]? with
   |some (.iF z pos)=>if pos<z.length then
     (let d:=Utf8.decode ⟨z.toArray⟩ pos
     b (some (.tuple [.bool true,.int .i64 pos,.int .i32 d.1],[(i,.iF z (pos+d.2))])))
    else v (some (.tuple [.bool false]))
   |_=>none)
  |_=>none)
 |.extract t i=>(match bU ts t with
  |some (.tuple vs)=>v vs[i]?
  |_=>none)
 |.call c=>(match c.callee with
  |.builtin bi=>(match kr ts c.args.toList with
   |some a_=>b (bM E H aR bi c.argTypes.toList a_)
   |none=>none)
  |.value f=>(match bU ts f,kr ts c.args.toList with
   |some fv,some a_=>ke E pc ic yc (dr&&mS f) H fv a_
   |_,_=>none)
  |_=>none)
 |_=>none
def bA(dst:Option Nat)(v:AV)(ts:List AV):List AV:=
 match dst with
 |some d=>ts.set d v
 |none=>ts
def bE(ops:List Oper)(ts:List AV)(o:Oper):Bool:=
 match o.guard with
 |none=>true
 |some (j,want)=>match(ops[j]?).bind (·.dst)with
  |none=>false
  |some d=>match ts[d]? with
   |some (.bool b)=>b==want
   |_=>false
def bV(E:Env)(pc:Pc)(ic yc:Ic)(dr:Bool)(ops:List Oper)(aR:Nat)(o:Oper)(ts:List AV)(H:Hp):Option (List AV×cF):=
 if bE ops ts o then
  match dH E pc ic yc dr ts H aR o with
  |some (v,e)=>some (bA o.dst v ts,e)
  |none=>none
 else some (bA o.dst bT ts,.bJ [])
def qi(E:Env)(pc:Pc)(ic yc:Ic)(ops:List Oper):List Oper->List AV->Hp->Option (List AV×Hp)
 |[],ts,H=>some (ts,H)
 |o::rest,ts,H=>match bV E pc ic yc false ops H.length o ts H with
  |some (ts',e)=>qi E pc ic yc ops rest ts' (e.app H)
  |none=>none
def eg:AV->List Nat
 |.bK b _|.aI b _ _ _ _|.eR b=>[b]
 |_=>[]
def lJ(ts:List AV)(o:Oper):List Nat:=
 o.op.operands.toList.flatMap fun x=>match bU ts x with
  |some v=>eg v
  |none=>[]
def bH(E:Env)(ts:List AV)(o:Oper)(e:cF):List Nat×List Nat:=
 match iJ E o with
 |.n=>([],[])
 |_=>match e with
  |.bJ l=>(lJ ts o,l.map (·.1))
  |.marks l=>(l,[])
  |.looks l=>(l,[])
  |.Ep _=>([],[])
def dp:cE:=.cells .dead [bT]
def kE:Option cE->Bool
 |some (.cells .dead [.tuple []])=>true
 |_=>false
def pz(E:Env)(pc:Pc)(ic yc:Ic)(ops:List Oper):List Oper->Nat->List AV->Hp->Option (List AV×Hp×List (List Nat×List Nat))
 |[],_,ts,H=>some (ts,H,[])
 |o::rest,aR,ts,H=>if bW E o&&!kE H[aR]? then none else
  match bV E pc ic yc true ops aR o ts H with
  |some (ts',e)=>match pz E pc ic yc ops rest (if bW E o then aR+1 else aR) ts' (e.app H)with
   |some (t,h,l)=>some (t,h,bH E ts o e::l)
   |none=>none
  |none=>none
def wC(a b:List Nat):Bool:=a.all fun x=>!b.contains x
def rJ(l:List (List Nat×List Nat))(p:Nat×Nat):Bool:=
 match l[p.1]?,l[p.2]? with
 |some (r1,w1),some (r2,w2)=>wC w1 r2&&wC w1 w2&&wC r1 w2
 |_,_=>true
def x6(E:Env)(pc:Pc)(ic yc:Ic)(id:Nat)(ops:List Oper)(ts:List AV)(H:Hp):Option (List AV×Hp):=
 match pz E pc ic yc ops ops H.length ts (H++aLu (ops.countP (bW E)) dp)with
 |some (t,h,l)=>if(E.pairs id ops.length).all (rJ l)then some (t,h)else none
 |none=>none
inductive Ex where
 |normal
 |exit (id:Nat)
 |ret
 deriving DecidableEq
def fL(H:Hp)(E:Env)(ts:List AV):List ResultVar->Option (List AV)
 |[]=>some []
 |.tmp t::rs=>(fL H E ts rs).map fun vs=>ts[t]?.getD bT::vs
 |.cell a t::rs=>match dU E H t (ts[a]?.getD bT),fL H E ts rs with
  |some v,some vs=>some (v::vs)
  |_,_=>none
def gV:List AV->AV
 |[v]=>v
 |vs=>.tuple vs
abbrev Cd:=Code->List AV->Hp->Option (Ex×List AV×Hp)
def jF(E:Env)(rec:Cd):Pc:=fun f args=>
 match E.ov f args with
 |some r=>some r
 |none=>match E.fn f with
  |some fi=>if !(fi.pure||fi.eD)then none else
   match rec fi.code (args++aLu (fi.ntmps-args.length) bT) []with
   |some (.exit _,_,_)=>none
   |some (_,ts,H)=>match fL H E ts fi.results with
    |some vs=>match bX H [gV vs]with
     |some ([v],_)=>some v
     |_=>none
    |none=>none
   |none=>none
  |none=>none
def oI(E:Env)(rec:Cd):Ic:=fun f args H=>
 match E.fn f with
 |some fi=>
  match rec fi.code (args++aLu (fi.ntmps-args.length) bT) H with
  |some (.exit _,_,_)=>none
  |some (_,ts,H')=>(fL H' E ts fi.results).map fun vs=>(gV vs,H')
  |none=>none
 |none=>none
def kQ(E:Env)(rec:Cd):Ic:=fun f args H=>
 match E.rH f args H with
 |some r=>some r
 |none=>oI E rec f args H
def HN(ts:List AV):List Nat->List AV->Option (List AV)
 |[],[]=>some ts
 |p::ps,a::a_=>HN (ts.set p a) ps a_
 |_,_=>none
def lL(rec:Cd):Ic:=fun l args H=>
 match H[l]? with
 |some (.loop .ready _ ts ps assign body)=>match HN ts ps args with
  |some ts'=>match rec assign ts' H with
   |some (.normal,t1,H1)=>match H1[l]? with
    |some (.loop .ready im oe ps2 as2 b2)=>
     match rec body t1 (H1.set l (.loop .busy im oe ps2 as2 b2))with
     |some (e,_,H2)=>match H2[l]? with
      |some (.loop _ _ Aj Ab zu b3)=>match e with
       |.normal=>some (.bool true,H2.set l (.loop .ready none Aj Ab zu b3))
       |.ret=>some (.bool false,H2.set l (.loop .done (some .ret) Aj Ab zu b3))
       |.exit id=>some (.bool false,H2.set l (.loop .done (some (.exit id)) Aj Ab zu b3))
      |_=>none
     |none=>none
    |_=>none
   |_=>none
  |none=>none
 |_=>none
def cL(E:Env)(rec:Cd):Cd:=fun c ts H=>
 match c with
 |.skip|.label _=>some (.normal,ts,H)
 |.region id ops draw=>
  (if draw then x6 E (jF E rec) (kQ E rec) (lL rec) id ops.toList ts H
   else qi E (jF E rec) (kQ E rec) (lL rec) ops.toList ops.toList ts H).map fun(t,h)=>(.normal,t,h)
 |.seq a b=>match rec a ts H with
  |some (.normal,ts',H')=>rec b ts' H'
  |r=>r
 |.cond c a b=>match bU ts c with
  |some (.bool t)=>rec (if t then a else b) ts H
  |_=>none
 |.block id body=>match rec body ts H with
  |some (.exit Nc,ts',H')=>if Nc=id then some (.normal,ts',H')else some (.exit Nc,ts',H')
  |r=>r
 |.loop body=>match rec body ts H with
  |some (.normal,ts',H')=>rec (.loop body) ts' H'
  |r=>r
 |.exit id=>some (.exit id,ts,H)
 |.ret=>some (.ret,ts,H)
 |.rangeFunc g ps assign body=>match bU ts g with
  |some (.func f first cap)=>
   match oI E rec f (first++[.yield H.length]++cap) (H++[.loop .ready none ts ps.toList assign body])with
   |some (_,H2)=>match H2[H.length]? with
    |some (.loop st im Aj Ab zu b3)=>
     if st=.busy then none else
     match im with
     |none=>some (.normal,ts,H2.set H.length (.loop .exhausted im Aj Ab zu b3))
     |some c=>rec c ts (H2.set H.length (.loop .exhausted im Aj Ab zu b3))
    |_=>none
   |none=>none
  |_=>none
 |_=>none
def bS(E:Env):Nat->Cd
 |0=>fun _ _ _=>none
 |n+1=>cL E (bS E n)
def call(E:Env)(n:Nat):Pc:=jF E (bS E n)
end
end Dv
namespace Dv
open Go Go.RowKit
abbrev cT:=Nat->Option (Nat×Nat)
def cg:cT:=fun _=>none
mutual
def R(ι:cT)(w:World)(L:Nat->Prop):AV->Value->Prop
 |.bool b,v=>v=.bool b
 |.int k n,v=>v=.int k n
 |.str s,v=>v=.string ⟨s.toArray⟩
 |.gQ,v=>v=.pointer none
 |.bK b off,v=>∃cb co,ι b=some (cb,co)/\v=.pointer (some ⟨cb,co+off,none⟩)
 |.cS cs off,v=>∃cb o c e f,v=.pointer (some ⟨cb,o+off,none⟩)/\w.heap[cb]?=some (.cells c e f)/\¬L cb/\iH cg w L c o cs
 |.ie g off,v=>v=.pointer (some ⟨g,off,none⟩)
 |.aH,v=>v=.slice none 0 0
 |.dw,v=>∃a cap,v=.slice (some a) 0 cap
 |.aI b off len esz kc,v=>∃cb co cap c e f,ι b=some (cb,co)/\v=.slice (some ⟨cb,co+off,none⟩) len cap/\len<=kc/\kc<=cap/\
   w.heap[cb]?=some (.cells c e f)/\co+off+cap*esz<=c.size
 |.aK cs len,v=>∃cb o cap c e f,v=.slice (some ⟨cb,o,none⟩) len cap/\len<=cap/\w.heap[cb]?=some (.cells c e f)/\¬L cb/\iH cg w L c o cs
 |.gb,v=>v=.map none
 |.eR b,v=>∃cb co,ι b=some (cb,co)/\v=.map (some cb)
 |.vV ks vs,v=>∃cb es clock,v=.map (some cb)/\w.heap[cb]?=some (.map es clock)/\¬L cb/\Rs cg w L ks (es.toList.map (·.key))/\Rs cg w L vs (es.toList.map (·.val))
 |.fR,v=>v=.nilFunc
 |.func f first cap,v=>∃a c,v=.func (.func f) a c/\Rs ι w L first a.toList/\Rs ι w L cap c.toList
 |.nilIface,v=>v=.nilIface
 |.iface t x,v=>∃y,v=.iface t y/\R ι w L x y
 |.agg cs,v=>∃vs,v=.agg vs/\Rs ι w L cs vs.toList
 |.tuple cs,v=>∃vs,v=.tuple vs/\Rs ι w L cs vs.toList
 |.yield l,v=>∃cb co,ι l=some (cb,co)/\v=.func (.yield cb) #[] #[]
def Rs(ι:cT)(w:World)(L:Nat->Prop):List AV->List Value->Prop
 |[],vs=>vs=[]
 |x::xs,vs=>∃y ys,vs=y::ys/\R ι w L x y/\Rs ι w L xs ys
def iH(ι:cT)(w:World)(L:Nat->Prop)(c:Array Value):Nat->List AV->Prop
 |_,[]=>True
 |o,x::xs=>(∃y,c[o]?=some y/\R ι w L x y)/\iH ι w L c (o+1) xs
end
structure Ext(w:World)(L:Nat->Prop)(w':World)(L':Nat->Prop):Prop where
 size:w.heap.size<=w'.heap.size
 old:∀c,c<w.heap.size->¬L c->w'.heap[c]?=w.heap[c]?/\¬L' c
 shape:∀(c:Nat) (cs:Array Value) (e:TypeId) (f:Nat×Nat),w.heap[c]?=some (Obj.cells cs e f)->∃(As:Array Value) (f':Nat×Nat),w'.heap[c]?=some (Obj.cells As e f')/\As.size=cs.size
def Ext.refl(w:World)(L:Nat->Prop):Ext w L w L:=⟨aLt _,fun _ _ h=>⟨rfl,h⟩,fun _ cs _ f h=>⟨cs,f,h,rfl⟩⟩
def Ext.trans{w w' w'':World}{L L' L'':Nat->Prop}(h:Ext w L w' L')(k:Ext w' L' w'' L''):Ext w L w'' L'':=
 ⟨Nat.le_trans h.size k.size,
  fun c hc hl=>let⟨h1,h2⟩:=h.old c hc hl;let⟨k1,k2⟩:=k.old c (Nat.lt_of_lt_of_le hc h.size) h2;⟨k1.trans h1,k2⟩,
  fun c cs e f pN=>let⟨As,f',h1,h2⟩:=h.shape c cs e f pN;let⟨axW,f'',k1,k2⟩:=k.shape c As e f' h1;⟨axW,f'',k1,k2.trans h2⟩⟩
def eF{w:World}{c:Nat}{o:Obj}(h:w.heap[c]?=some o):c<w.heap.size:=by
 rcases Nat.lt_or_ge c w.heap.size with h'|h'
 ·exact h'
 ·simp[Array.getElem?_eq_none h']at h
def cT.le(ι ι':cT):Prop:=∀b p,ι b=some p->ι' b=some p
def cT.le_refl(ι:cT):ι.le ι:=fun _ _ h=>h
def cT.le_trans{a b c:cT}(h:a.le b)(k:b.le c):a.le c:=fun x p hx=>k x p (h x p hx)
def qM(ι:cT):cg.le ι:=fun _ _ h=>by cases h
def Ext.keep{w w':World}{L L':Nat->Prop}(h:Ext w L w' L'){c:Nat}{o:Obj}(hc:w.heap[c]?=some o)(hl:¬L c):w'.heap[c]?=some o/\¬L' c:=by
 have:=h.old c (eF hc) hl
 exact⟨this.1.trans hc,this.2⟩
mutual
def R.ext{w w':World}{L L':Nat->Prop}(he:Ext w L w' L'):∀(av:AV) (ι ι':cT) (v:Value),ι.le ι'->R ι w L av v->R ι' w' L' av v
 |.bool _,_,_,_,_,h=>by simpa[R]using h
 |.int _ _,_,_,_,_,h=>by simpa[R]using h
 |.str _,_,_,_,_,h=>by simpa[R]using h
 |.gQ,_,_,_,_,h=>by simpa[R]using h
 |.bK _ _,_,_,_,hi,h=>by
  simp only[R]at h⊢;obtain⟨cb,co,h1,h2⟩:=h;exact⟨cb,co,hi _ _ h1,h2⟩
 |.cS cs _,_,_,_,_,h=>by
  simp only[R]at h⊢;obtain⟨cb,o,c,e,f,h1,h2,h3,h4⟩:=h
  have:=he.keep h2 h3
  exact⟨cb,o,c,e,f,h1,this.1,this.2,iH.ext he cs cg cg c o (cT.le_refl _) h4⟩
 |.ie _ _,_,_,_,_,h=>by simpa[R]using h
 |.aH,_,_,_,_,h=>by simpa[R]using h
 |.dw,_,_,_,_,h=>by simpa[R]using h
 |.aI _ _ _ _ _,_,_,_,hi,h=>by
  simp only[R]at h⊢;obtain⟨cb,co,cap,c,e,f,h1,h2,h3,h4,h5,h6⟩:=h;obtain⟨c',f',g1,g2⟩:=he.shape cb c e f h5;exact⟨cb,co,cap,c',e,f',hi _ _ h1,h2,h3,h4,g1,by omega⟩
 |.aK cs _,_,_,_,_,h=>by
  simp only[R]at h⊢;obtain⟨cb,o,cap,c,e,f,h1,h2,h3,h4,h5⟩:=h
  have:=he.keep h3 h4
  exact⟨cb,o,cap,c,e,f,h1,h2,this.1,this.2,iH.ext he cs cg cg c o (cT.le_refl _) h5⟩
 |.gb,_,_,_,_,h=>by simpa[R]using h
 |.eR _,_,_,_,hi,h=>by
  simp only[R]at h⊢;obtain⟨cb,co,h1,h2⟩:=h;exact⟨cb,co,hi _ _ h1,h2⟩
 |.vV ks vs,_,_,_,_,h=>by
  simp only[R]at h⊢;obtain⟨cb,es,clock,h1,h2,h3,h4,h5⟩:=h
  have:=he.keep h2 h3
  exact⟨cb,es,clock,h1,this.1,this.2,Rs.ext he ks cg cg _ (cT.le_refl _) h4,Rs.ext he vs cg cg _ (cT.le_refl _) h5⟩
 |.fR,_,_,_,_,h=>by simpa[R]using h
 |.func _ a b,ι,ι',_,hi,h=>by
  simp only[R]at h⊢;obtain⟨x,y,h1,h2,h3⟩:=h;exact⟨x,y,h1,Rs.ext he a ι ι' _ hi h2,Rs.ext he b ι ι' _ hi h3⟩
 |.nilIface,_,_,_,_,h=>by simpa[R]using h
 |.iface _ x,ι,ι',_,hi,h=>by
  simp only[R]at h⊢;obtain⟨y,h1,h2⟩:=h;exact⟨y,h1,R.ext he x ι ι' y hi h2⟩
 |.agg cs,ι,ι',_,hi,h=>by
  simp only[R]at h⊢;obtain⟨y,h1,h2⟩:=h;exact⟨y,h1,Rs.ext he cs ι ι' _ hi h2⟩
 |.tuple cs,ι,ι',_,hi,h=>by
  simp only[R]at h⊢;obtain⟨y,h1,h2⟩:=h;exact⟨y,h1,Rs.ext he cs ι ι' _ hi h2⟩
 |.yield _,_,_,_,hi,h=>by
  simp only[R]at h⊢;obtain⟨cb,co,h1,h2⟩:=h;exact⟨cb,co,hi _ _ h1,h2⟩
def Rs.ext{w w':World}{L L':Nat->Prop}(he:Ext w L w' L'):∀(xs:List AV) (ι ι':cT) (vs:List Value),ι.le ι'->Rs ι w L xs vs->Rs ι' w' L' xs vs
 |[],_,_,_,_,h=>by simpa[Rs]using h
 |x::xs,ι,ι',_,hi,h=>by
  simp only[Rs]at h⊢;obtain⟨y,ys,h1,h2,h3⟩:=h;exact⟨y,ys,h1,R.ext he x ι ι' y hi h2,Rs.ext he xs ι ι' ys hi h3⟩
def iH.ext{w w':World}{L L':Nat->Prop}(he:Ext w L w' L'):∀(xs:List AV) (ι ι':cT) (c:Array Value) (o:Nat),ι.le ι'->iH ι w L c o xs->iH ι' w' L' c o xs
 |[],_,_,_,_,_,_=>by simp[iH]
 |x::xs,ι,ι',c,o,hi,h=>by
  simp only[iH]at h⊢;obtain⟨⟨y,h1,h2⟩,h3⟩:=h;exact⟨⟨y,h1,R.ext he x ι ι' y hi h2⟩,iH.ext he xs ι ι' c (o+1) hi h3⟩
end
section
variable{ι:cT}{w:World}{L:Nat->Prop}
def Rs.length:∀{xs:List AV} {vs:List Value},Rs ι w L xs vs->vs.length=xs.length
 |[],_,h=>by simp only[Rs]at h;simp[h]
 |_::xs,_,h=>by
  simp only[Rs]at h;obtain⟨y,ys,rfl,_,h3⟩:=h;simp[Rs.length h3]
def Rs.get:∀{xs:List AV} {vs:List Value} (_:Rs ι w L xs vs) (i:Nat) (x:AV),xs[i]?=some x->∃v,vs[i]?=some v/\R ι w L x v
 |[],_,_,i,x,hx=>by simp at hx
 |a::xs,_,h,i,x,hx=>by
  simp only[Rs]at h;obtain⟨y,ys,rfl,h2,h3⟩:=h;cases i with
  |zero=>simp at hx;subst hx;exact⟨y,by simp,h2⟩
  |succ i=>simp at hx;simpa using Rs.get h3 i x hx
def Rs.gR:∀{xs:List AV} {vs:List Value},vs.length=xs.length->(∀(i:Nat) (x:AV),xs[i]?=some x->∃v,vs[i]?=some v/\R ι w L x v)->Rs ι w L xs vs
 |[],vs,hl,_=>by simp only[Rs];simpa using hl
 |a::xs,[],hl,_=>by simp at hl
 |a::xs,v::vs,hl,h=>by
  simp only[Rs];refine⟨v,vs,rfl,?_,Rs.gR (by simpa using hl) fun i x hx=>?_⟩
  ·obtain⟨u,h1,h2⟩:=h 0 a (by simp);simp at h1;subst h1;exact h2
  ·simpa using h (i+1) x (by simpa using hx)
def Rs.append{xs ys:List AV}{us vs:List Value}(h:Rs ι w L xs us)(k:Rs ι w L ys vs):Rs ι w L (xs++ys) (us++vs):=by
 have l1:=h.length;refine Rs.gR (by simp[l1,k.length]) fun i x hx=>?_
 rw[aLw]at hx⊢;by_cases hi:i<xs.length
 ·rw[if_pos hi]at hx;rw[if_pos (by omega)];exact h.get i x hx
 ·rw[if_neg hi]at hx;rw[if_neg (by omega),l1];exact k.get _ x hx
def Rs.take{xs:List AV}{vs:List Value}(h:Rs ι w L xs vs)(n:Nat):Rs ι w L (xs.take n) (vs.take n):=by
 refine Rs.gR (by simp[h.length]) fun i x hx=>?_
 rw[aLx]at hx⊢;split at hx
 ·rename_i hi;rw[if_pos hi];exact h.get i x hx
 ·cases hx
def Rs.drop{xs:List AV}{vs:List Value}(h:Rs ι w L xs vs)(n:Nat):Rs ι w L (xs.drop n) (vs.drop n):=by
 refine Rs.gR (by simp[h.length]) fun i x hx=>?_
 rw[aLy]at hx⊢;exact h.get _ x hx
def Rs.set{xs:List AV}{vs:List Value}(h:Rs ι w L xs vs)(n:Nat){x:AV}{v:Value}(hx:R ι w L x v):Rs ι w L (xs.set n x) (vs.set n v):=by
 refine Rs.gR (by simp[h.length]) fun i y hy=>?_
 rw[aLp]at hy⊢;split at hy
 ·rename_i hni;subst hni;split at hy
  ·rename_i eh;simp at hy;subst hy
   exact⟨v,by simp[h.length,eh],hx⟩
  ·cases hy
 ·rename_i hni;rw[if_neg hni];exact h.get i y hy
def Rs.getD{xs:List AV}{vs:List Value}(h:Rs ι w L xs vs)(i:Nat):R ι w L (xs[i]?.getD bT) (vs[i]?.getD undef):=by
 cases hx:xs[i]? with
 |some x=>obtain⟨v,h1,h2⟩:=h.get i x hx;simpa[h1]using h2
 |none=>
  have:vs[i]?=none:=by rw[List.getElem?_eq_none_iff]at hx⊢;rw[h.length];exact hx
  rw[this];simp only[Option.getD_none,bT,R];exact⟨#[],rfl,by simp[Rs]⟩
def iH.get{c:Array Value}:∀{xs:List AV} {o:Nat} (_:iH ι w L c o xs) (i:Nat) (x:AV),xs[i]?=some x->∃v,c[o+i]?=some v/\R ι w L x v
 |[],_,_,i,x,hx=>by simp at hx
 |a::xs,o,h,i,x,hx=>by
  simp only[iH]at h;obtain⟨⟨y,h1,h2⟩,h3⟩:=h;cases i with
  |zero=>simp at hx;subst hx;exact⟨y,by simpa using h1,h2⟩
  |succ i=>
   simp at hx;obtain⟨v,g1,g2⟩:=iH.get h3 i x hx;exact⟨v,by rw[<-g1];congr 1;omega,g2⟩
def iH.gR{c:Array Value}:∀{xs:List AV} {o:Nat},(∀(i:Nat) (x:AV),xs[i]?=some x->∃v,c[o+i]?=some v/\R ι w L x v)->iH ι w L c o xs
 |[],_,_=>by simp[iH]
 |a::xs,o,h=>by
  simp only[iH];refine⟨by simpa using h 0 a (by simp),iH.gR fun i x hx=>?_⟩;obtain⟨v,h1,h2⟩:=h (i+1) x (by simpa using hx);exact⟨v,by rw[<-h1];congr 1;omega,h2⟩
def iH.drop{c:Array Value}{xs:List AV}{o:Nat}(h:iH ι w L c o xs)(n:Nat):iH ι w L c (o+n) (xs.drop n):=
 iH.gR fun i x hx=>by
  rw[aLy]at hx;rw[show o+n+i=o+(n+i)from by omega];exact h.get _ x hx
def iH.take{c:Array Value}{xs:List AV}{o:Nat}(h:iH ι w L c o xs)(n:Nat):iH ι w L c o (xs.take n):=
 iH.gR fun i x hx=>by
  rw[aLx]at hx;split at hx
  ·exact h.get _ x hx
  ·cases hx
def iH.size{c:Array Value}{xs:List AV}{o:Nat}(h:iH ι w L c o xs)(ej:xs≠[]):o+xs.length<=c.size:=by
 have hl:0<xs.length:=List.length_pos_iff.2 ej;obtain⟨v,h1,_⟩:=h.get (xs.length-1) _ (List.getElem?_eq_getElem (by omega))
 have:=(Array.getElem?_eq_some_iff.1 h1).1
 omega
def iH.list{c:Array Value}{xs:List AV}{o:Nat}(h:iH ι w L c o xs):Rs ι w L xs (c.extract o (o+xs.length)).toList:=by
 by_cases ej:xs=[]
 ·subst ej;simp[Rs]
 have hs:=h.size ej;refine Rs.gR (by simp;omega) fun i x hx=>?_
 obtain⟨v,h1,h2⟩:=h.get i x hx;have hi:i<xs.length:=(aLq.1 hx).1;refine⟨v,?_,h2⟩;rw[Array.getElem?_toList,Array.getElem?_extract];rw[if_pos (by omega)];exact h1
def Rs.at{c:Array Value}{xs:List AV}{vs:List Value}(h:Rs ι w L xs vs){o:Nat}(hc:∀(i:Nat) (v:Value),vs[i]?=some v->c[o+i]?=some v):iH ι w L c o xs:=
 iH.gR fun i x hx=>let⟨v,h1,h2⟩:=h.get i x hx;⟨v,hc i v h1,h2⟩
end
structure anL(E:Env)(P:Program)(t:Nat)(i:sk):Prop where
 cD:P.underlying t=some i.cD
 agg:i.isAgg=(match i.cD with|.struct _|.array .. =>true|_=>false)
 info:∃ti,P.info? t=some ti/\ti.size=i.size/\ti.bytes=i.bytes/\
  (∀cs,i.zero=some cs->∃z,ti.zero=some z/\e9 (Bb 19) z.cells.toList=some cs/\cs.length=i.size/\
   (i.isAgg=true->∃a,z=.agg a)/\(i.isAgg=false->z.cells=#[z]))
 one:i.isAgg=false->i.size=1
 eq:i.dK=true->P.stoodInHeld t=false/\P.eqGuardType P.depth t=false
structure Valid(E:Env)(P:Program):Prop where
 ty:∀t i,E.ty t=some i->anL E P t i
 fn:∀f fi,E.fn f=some fi->∃fn,P.funcs[f]?=some fn/\fn.body=some fi.code/\fn.ntmps=fi.ntmps/\fn.results.toList=fi.results/\
  fn.name≠ "runtime.NumGoroutine"/\codeOk E fi.code=true
 mixed:P.follows .mixedOrders=true
def bt{E:Env}{P:Program}(V:Valid E P){t:Nat}{i:sk}(h:E.ty t=some i)(w:World):(underlying t).run P w=.ok i.cD w:=
 run_underlying (V.ty t i h).cD w
def cH{E:Env}{P:Program}(V:Valid E P){t:Nat}{i:sk}(h:E.ty t=some i)(w:World):(Go.sizeOf t).run P w=.ok i.size w:=by obtain⟨ti,h1,h2,_⟩:=(V.ty t i h).info;simp[Go.sizeOf,typeInfo,h1,h2]
def DP{E:Env}{P:Program}(V:Valid E P){t:Nat}{i:sk}(h:E.ty t=some i)(w:World):(isAgg t).run P w=.ok i.isAgg w:=by
 have hu:=bt V h w;have ha:=(V.ty t i h).agg;unfold isAgg;simp only[Sem.run_bind,hu,Result.andThen_ok,ha];cases i.cD<;>rfl
mutual
def L7{ι:cT}{w:World}{L:Nat->Prop}:∀(n:Nat) (v:Value) (av:AV),Bb n v=some av->R ι w L av v
 |0,_,_,h=>by simp[Bb]at h
 |n+1,v,av,h=>by
  unfold Bb at h;split at h
  case h_1=>cases h;simp[R]
  case h_2=>cases h;simp[R]
  case h_3 s=>cases h;simp[R]
  case h_4=>cases h;simp[R]
  case h_5=>cases h;simp[R]
  case h_6=>cases h;simp[R]
  case h_7=>cases h;simp[R]
  case h_8=>cases h;simp[R]
  case h_9 cs=>
   rw[aLs]at h;obtain⟨xs,h1,rfl⟩:=h;simp only[R];exact⟨cs,rfl,uz n cs.toList xs h1⟩
  case h_10 cs=>
   rw[aLs]at h;obtain⟨xs,h1,rfl⟩:=h;simp only[R];exact⟨cs,rfl,uz n cs.toList xs h1⟩
  case h_11 t v=>
   rw[aLs]at h;obtain⟨x,h1,rfl⟩:=h;simp only[R];exact⟨v,rfl,L7 n v x h1⟩
  case h_12=>cases h
def uz{ι:cT}{w:World}{L:Nat->Prop}:∀(n:Nat) (vs:List Value) (xs:List AV),e9 (Bb n) vs=some xs->Rs ι w L xs vs
 |_,[],_,h=>by simp[e9]at h;subst h;simp[Rs]
 |n,v::vs,xs,h=>by
  unfold e9 at h;cases h1:Bb n v with
  |none=>simp[h1]at h
  |some x=>
   simp only[h1]at h;cases h2:e9 (Bb n) vs with
   |none=>simp[h2]at h
   |some ys=>
    simp only[h2,Option.some.injEq]at h;subst h;simp only[Rs];exact⟨v,vs,rfl,L7 n v x h1,uz n vs ys h2⟩
end
def z8{ι:cT}{w:World}{L:Nat->Prop}{x:AV}{v:Value}(h:R ι w L x v)(ho:cN x=true):v.oneCell'=true:=by
 cases x<;>simp only[cN,Bool.false_eq_true]at ho<;>simp only[R]at h
 case bool=>subst h;rfl
 case int=>subst h;rfl
 case str=>subst h;rfl
 case gQ=>subst h;rfl
 case bK=>obtain⟨_,_,_,rfl⟩:=h;rfl
 case cS=>obtain⟨_,_,_,_,_,rfl,_⟩:=h;rfl
 case ie=>subst h;rfl
 case aH=>subst h;rfl
 case dw=>obtain⟨_,_,rfl⟩:=h;rfl
 case aI=>obtain⟨_,_,_,_,_,_,_,rfl,_⟩:=h;rfl
 case aK=>obtain⟨_,_,_,_,_,_,rfl,_⟩:=h;rfl
 case gb=>subst h;rfl
 case eR=>obtain⟨_,_,_,rfl⟩:=h;rfl
 case vV=>obtain⟨_,_,_,rfl,_⟩:=h;rfl
 case fR=>subst h;rfl
 case func=>obtain⟨_,_,rfl,_⟩:=h;rfl
 case nilIface=>subst h;rfl
 case iface=>obtain⟨_,rfl,_⟩:=h;rfl
 case yield=>obtain⟨_,_,_,rfl⟩:=h;rfl
def R.cells{ι:cT}{w:World}{L:Nat->Prop}{x:AV}{v:Value}(h:R ι w L x v):Rs ι w L x.cells v.cells.toList:=by
 cases x
 case agg cs=>simp only[R]at h;obtain⟨vs,rfl,h2⟩:=h;exact h2
 all_goals
  have h0:=h;simp only[R]at h;simp only[AV.cells,Rs];refine⟨v,[],?_,h0,rfl⟩
 case bool=>subst h;rfl
 case int=>subst h;rfl
 case str=>subst h;rfl
 case gQ=>subst h;rfl
 case bK=>obtain⟨_,_,_,rfl⟩:=h;rfl
 case cS=>obtain⟨_,_,_,_,_,rfl,_⟩:=h;rfl
 case ie=>subst h;rfl
 case aH=>subst h;rfl
 case dw=>obtain⟨_,_,rfl⟩:=h;rfl
 case aI=>obtain⟨_,_,_,_,_,_,_,rfl,_⟩:=h;rfl
 case aK=>obtain⟨_,_,_,_,_,_,rfl,_⟩:=h;rfl
 case gb=>subst h;rfl
 case eR=>obtain⟨_,_,_,rfl⟩:=h;rfl
 case vV=>obtain⟨_,_,_,rfl,_⟩:=h;rfl
 case fR=>subst h;rfl
 case func=>obtain⟨_,_,rfl,_⟩:=h;rfl
 case nilIface=>subst h;rfl
 case iface=>obtain⟨_,rfl,_⟩:=h;rfl
 case tuple=>obtain⟨_,rfl,_⟩:=h;rfl
 case yield=>obtain⟨_,_,_,rfl⟩:=h;rfl
def cE.st:cE->qW
 |.cells st _=>st
 |.map st _ _=>st
 |.iF .. =>.live
 |.loop .. =>.live
def Live(Lo:Nat->Prop)(ι:cT)(H:Hp)(c:Nat):Prop:=Lo c∨∃b dI co,H[b]?=some dI/\dI.st=.live/\ι b=some (c,co)
def Uh(es:Array MapEntry)(clock:Nat):Prop:=(∀x∈es.toList,x.born<clock)/\(es.toList.map (·.born)).Nodup
def fY(ι:cT)(w:World)(L:Nat->Prop)(co:Nat):cE->Obj->Prop
 |.cells st cs,o=>∃c e f,o=.cells c e f/\iH ι w L c co cs/\(st=.live->∀k,k<=c.size->¬(f.1<=k/\k<f.2))
 |.map st ks vs,o=>∃es clock,o=.map es clock/\Rs ι w L ks (es.toList.map (·.key))/\Rs ι w L vs (es.toList.map (·.val))/\(st=.live->Uh es clock)
 |.iF s pos,o=>co=0/\o=.stringIter ⟨s.toArray⟩ pos
 |.loop st im ts ps a_ bd,o=>∃l:Loop,o=.loop l/\l.state=st/\l.pending=im/\Rs ι w L ts l.tmps.toList/\l.params.toList=ps/\l.assign=a_/\l.body=bd
def fY.ext{w w':World}{L L':Nat->Prop}(he:Ext w L w' L'){ι ι':cT}(hi:ι.le ι'){co:Nat}{dI:cE}{o:Obj}(h:fY ι w L co dI o):fY ι' w' L' co dI o:=by
 cases dI<;>simp only[fY]at h⊢
 case cells=>obtain⟨c,e,f,h1,h2,h3⟩:=h;exact⟨c,e,f,h1,iH.ext he _ _ _ _ _ hi h2,h3⟩
 case map=>obtain⟨es,k,h1,h2,h3,h4⟩:=h;exact⟨es,k,h1,Rs.ext he _ _ _ _ hi h2,Rs.ext he _ _ _ _ hi h3,h4⟩
 case iF=>exact h
 case loop=>obtain⟨l,h1,h2,h3,h4,h5⟩:=h;exact⟨l,h1,h2,h3,Rs.ext he _ _ _ _ hi h4,h5⟩
def cE.qa(E:Env):cE->Prop
 |.loop _ p _ _ a_ bd=>codeOk E a_=true/\codeOk E bd=true/\flat a_=true/\flat bd=true/\∀c,p=some c->codeOk E c=true
 |_=>True
structure fT(E:Env)(Lo:Nat->Prop)(w0:World)(ι:cT)(H:Hp)(w:World):Prop where
 below:Below w0.heap.size w0 w
 lo:∀c,Lo c->c<w0.heap.size
 Ik:∀b p,ι b=some p->b<H.length/\p.1<w.heap.size
 obj:∀(b:Nat) (dI:cE),H[b]?=some dI->dI.st≠ .dead->∃cb co o,ι b=some (cb,co)/\w.heap[cb]?=some o/\fY ι w (Live Lo ι H) co dI o/\
  (dI.st=.live->w0.heap.size<=cb)/\(dI.st=.ro->¬Live Lo ι H cb)
 inj:∀(b b':Nat) (dI blk':cE) (c co co':Nat),H[b]?=some dI->dI.st=.live->H[b']?=some blk'->blk'.st=.live->ι b=some (c,co)->ι b'=some (c,co')->b=b'
 glob:∀g cs,E.glob g=some cs->∃c e f,w.heap[g]?=some (.cells c e f)/\¬Live Lo ι H g/\iH cg w (Live Lo ι H) c 0 cs/\c.size=cs.length
 qa:∀(b:Nat) (dI:cE),H[b]?=some dI->dI.st=.live->dI.qa E
 res:∀b p,ι b=some p->H[b]?≠some dp
section
variable{E:Env}{Lo:Nat->Prop}{w0:World}{ι:cT}{H:Hp}{w:World}
def mG(ι:cT)(H:Hp)(aR:Nat):Prop:=ι aR=none/\(aR=H.length∨H[aR]?=some dp)
def cT.put(ι:cT)(b:Nat)(p:Nat×Nat):cT:=fun x=>if x=b then some p else ι x
def cT.wT{b:Nat}{p:Nat×Nat}(h:ι b=none):ι.le (ι.put b p):=fun x q hx=>by
 unfold cT.put
 split
 ·rename_i he;subst he;rw[h]at hx;cases hx
 ·exact hx
def yf(h:fT E Lo w0 ι H w):mG ι H H.length:=
 ⟨by cases hi:ι H.length with
   |none=>rfl
   |some p=>exact absurd (h.Ik _ _ hi).1 (Nat.lt_irrefl _),.inl rfl⟩
def WZ(h:fT E Lo w0 ι H w){aR:Nat}(hn:H[aR]?=some dp):mG ι H aR:=
 ⟨by cases hi:ι aR with
   |none=>rfl
   |some p=>exact absurd hn (h.res _ _ hi),.inr hn⟩
def mY{aR:Nat}{dI:cE}(hf:aR<=H.length)(b:Nat):(cO H aR dI)[b]?=if b=aR then some dI else H[b]?:=by
 unfold cO
 split
 ·rename_i h;rw[aLp];by_cases hb:b=aR
  ·subst hb;simp[h]
  ·rw[if_neg (fun e=>hb e.symm),if_neg hb]
 ·rename_i h
  have:aR=H.length:=by omega
  subst this;by_cases hb:b=H.length
  ·subst hb;simp
  ·rw[if_neg hb,aLw]
   split
   ·rfl
   ·rename_i h2;rw[aLv (by simp;omega),aLv (by omega)]
def KV{aR:Nat}{dI:cE}(hf:aR<=H.length):H.length<=(cO H aR dI).length/\aR<(cO H aR dI).length:=by
 unfold cO
 split
 ·simp;omega
 ·simp;omega
def mG.le{aR:Nat}(h:mG ι H aR):aR<=H.length:=by
 rcases h.2 with rfl|h2
 ·exact aLt _
 ·exact Nat.le_of_lt (aLq.1 h2).1
def Df{aR cb co:Nat}{dI:cE}(hf:mG ι H aR)(hl:dI.st=.live)(c:Nat):
  Live Lo (ι.put aR (cb,co)) (cO H aR dI) c↔Live Lo ι H c∨c=cb:=by
 unfold Live;constructor
 ·rintro(h|⟨b,bk,x,h1,h2,h3⟩)
  ·exact .inl (.inl h)
  ·rw[mY hf.le]at h1;unfold cT.put at h3;by_cases hb:b=aR
   ·rw[if_pos hb]at h3;cases h3;exact .inr rfl
   ·rw[if_neg hb]at h1 h3;exact .inl (.inr ⟨b,bk,x,h1,h2,h3⟩)
 ·rintro((h|⟨b,bk,x,h1,h2,h3⟩)|h)
  ·exact .inl h
  ·have hb:b≠aR:=fun e=>by subst e;rw[hf.1]at h3;cases h3
   exact .inr ⟨b,bk,x,by rw[mY hf.le,if_neg hb];exact h1,h2,by unfold cT.put;rw[if_neg hb];exact h3⟩
  ·subst h;exact .inr ⟨aR,dI,co,by rw[mY hf.le,if_pos rfl],hl,by unfold cT.put;rw[if_pos rfl]⟩
def uH(h:fT E Lo w0 ι H w){aR:Nat}{dI:cE}(hf:mG ι H aR)(hl:dI.st=.live)(o:Obj){w1:World}(hw:w1.heap=w.heap):
  Ext w (Live Lo ι H) (w1.alloc o) (Live Lo (ι.put aR (w.heap.size,0)) (cO H aR dI)):=by
 refine⟨by simp[World.alloc,hw],fun c hc Qp=>⟨?_,fun pO=>?_⟩,fun c cs e f pN=>⟨cs,f,?_,rfl⟩⟩
 ·simp only[World.alloc,hw];rw[aLr,if_neg (by omega)]
 ·rcases(Df (co:=0) hf hl c).1 pO with h'|h'
  ·exact Qp h'
  ·omega
 ·have:=eF pN
  simp only[World.alloc,hw];rw[aLr,if_neg (by omega)];exact pN
def fT.alloc(h:fT E Lo w0 ι H w){aR:Nat}{dI:cE}(hf:mG ι H aR)(hl:dI.st=.live){o:Obj}{w1:World}(hw:w1.heap=w.heap)
  (hos:w1.os=w.os) (EJ:w1.tape=w.tape) (zP:w1.output=w.output)
  (ho:fY (ι.put aR (w.heap.size,0)) (w1.alloc o) (Live Lo (ι.put aR (w.heap.size,0)) (cO H aR dI)) 0 dI o) (CZ:dI.qa E:=by trivial):
  fT E Lo w0 (ι.put aR (w.heap.size,0)) (cO H aR dI) (w1.alloc o):=by
 have hx:=uH h hf hl o hw;have hle:=cT.wT (p:=(w.heap.size,0)) hf.1;have Ip:=h.below.size;refine⟨?_,h.lo,?_,?_,?_,?_,?_,?_⟩
 ·refine h.below.trans ⟨hos,EJ,zP,by simp[World.alloc,hw],fun k hk=>?_⟩;show(w1.heap.push o)[k]?=_
  rw[hw,aLr,if_neg (by omega)]
 ·intro b p hp;unfold cT.put at hp;have qp:=KV (dI:=dI) hf.le;split at hp
  ·rename_i e;subst e;cases hp;exact⟨qp.2,by simp[World.alloc,hw]⟩
  ·have:=h.Ik _ _ hp;exact⟨by omega,by simp[World.alloc,hw];omega⟩
 ·intro b bk hb hd;rw[mY hf.le]at hb;by_cases e:b=aR
  ·rw[if_pos e]at hb;cases hb;subst e
   refine⟨w.heap.size,0,o,by simp[cT.put],?_,ho,fun _=>Ip,fun hr=>by rw[hl]at hr;cases hr⟩;simp[World.alloc,hw]
  ·rw[if_neg e]at hb;obtain⟨cb,co,ob,h1,h2,h3,h4,h5⟩:=h.obj b bk hb hd;have eh:=eF h2;refine⟨cb,co,ob,hle _ _ h1,?_,h3.ext hx hle,h4,fun hr pO=>?_⟩
   ·show(w1.heap.push o)[cb]?=_
    rw[hw,aLr,if_neg (by omega)];exact h2
   ·rcases(Df (co:=0) hf hl cb).1 pO with h'|h'
    ·exact h5 hr h'
    ·omega
 ·intro b b' bk Vf c co co' hb hs Ss xp hi sB;rw[mY hf.le]at hb Ss;unfold cT.put at hi sB;by_cases e:b=aR
  ·by_cases e':b'=aR
   ·rw[e,e']
   ·rw[if_pos e]at hi;rw[if_neg e']at sB
    cases hi
    have:=(h.Ik _ _ sB).2
    omega
  ·by_cases e':b'=aR
   ·rw[if_pos e']at sB;rw[if_neg e]at hi
    cases sB
    have:=(h.Ik _ _ hi).2
    omega
   ·rw[if_neg e]at hb hi;rw[if_neg e']at Ss sB
    exact h.inj b b' bk Vf c co co' hb hs Ss xp hi sB
 ·intro g cs hg;obtain⟨c,e,f,h1,h2,h3,hz⟩:=h.glob g cs hg
  have:=hx.keep h1 h2
  exact⟨c,e,f,this.1,this.2,iH.ext hx _ _ _ _ _ (cT.le_refl _) h3,hz⟩
 ·intro b bk hb hs;rw[mY hf.le]at hb;split at hb
  ·cases hb;exact CZ
  ·exact h.qa b bk hb hs
 ·intro b p hp q;rw[mY hf.le]at q;unfold cT.put at hp;by_cases e:b=aR
  ·rw[if_pos e]at q;cases q;cases hl
  ·rw[if_neg e]at q hp;exact h.res b p hp q
structure Ej(w w':World)(cb:Nat)(o':Obj):Prop where
 os:w'.os=w.os
 tape:w'.tape=w.tape
 output:w'.output=w.output
 size:w'.heap.size=w.heap.size
 here:w'.heap[cb]?=some o'
 there:∀c,c≠cb->w'.heap[c]?=w.heap[c]?
def jP(o o':Obj):Prop:=∀cs e f,o=.cells cs e f->∃As f',o'=Obj.cells As e f'/\As.size=cs.size
def Ej.below{w':World}{cb:Nat}{o':Obj}(h:Ej w w' cb o'){B:Nat}(hb:B<=cb):Below B w w':=
 ⟨h.os,h.tape,h.output,Nat.le_of_eq h.size.symm,fun k hk=>h.there k (by omega)⟩
def Ej.ext{w':World}{cb:Nat}{o o':Obj}(h:Ej w w' cb o'){L L':Nat->Prop}(ho:w.heap[cb]?=some o)(hs:jP o o')(hl:L cb)(hL:∀c,L' c->L c):
  Ext w L w' L':=
 ⟨Nat.le_of_eq h.size.symm,fun c hc hn=>⟨h.there c (fun e=>hn (e▸hl)),fun h'=>hn (hL c h')⟩,fun c cs e f pN=>by
  by_cases hc:c=cb
  ·subst hc;rw[ho]at pN;cases pN
   obtain⟨As,f',h1,h2⟩:=hs cs e f rfl;exact⟨As,f',by rw[h.here,h1],h2⟩
  ·exact⟨cs,f,by rw[h.there c hc];exact pN,rfl⟩⟩
def YU{b:Nat}{dI blk':cE}(hb:H[b]?=some dI)(hs:blk'.st=dI.st)(c:Nat):Live Lo ι (H.set b blk') c↔Live Lo ι H c:=by
 have eh:=(aLq.1 hb).1;unfold Live;constructor
 ·rintro(h|⟨x,bk,co,h1,h2,h3⟩)
  ·exact .inl h
  ·rw[aLp]at h1;by_cases e:b=x
   ·subst e;rw[if_pos rfl,if_pos eh]at h1;cases h1
    exact .inr ⟨b,dI,co,hb,hs▸h2,h3⟩
   ·rw[if_neg e]at h1;exact .inr ⟨x,bk,co,h1,h2,h3⟩
 ·rintro(h|⟨x,bk,co,h1,h2,h3⟩)
  ·exact .inl h
  ·by_cases e:b=x
   ·subst e;rw[hb]at h1;cases h1
    exact .inr ⟨b,blk',co,by rw[aLp,if_pos rfl,if_pos eh],by rw[hs];exact h2,h3⟩
   ·exact .inr ⟨x,bk,co,by rw[aLp,if_neg e];exact h1,h2,h3⟩
def Live.congr{Lo:Nat->Prop}{ι ι':cT}{H H':Hp}(h:∀c,Live Lo ι H c↔Live Lo ι' H' c):Live Lo ι H=Live Lo ι' H':=funext fun c=>propext (h c)
def fT.update(h:fT E Lo w0 ι H w){b cb co:Nat}{dI blk':cE}{o o':Obj}{w':World}(hb:H[b]?=some dI)(hl:dI.st=.live)(pO:blk'.st=.live)
  (hi:ι b=some (cb,co)) (ho:w.heap[cb]?=some o) (se:jP o o') (hw:Ej w w' cb o')
  (hr:fY ι w' (Live Lo ι H) co blk' o') (CZ:blk'.qa E:=by trivial):fT E Lo w0 ι (H.set b blk') w'/\Ext w (Live Lo ι H) w' (Live Lo ι (H.set b blk')):=by
 have eh:=(aLq.1 hb).1;have hL:Live Lo ι (H.set b blk')=Live Lo ι H:=Live.congr (YU hb (pO.trans hl.symm));have nL:Live Lo ι H cb:=.inr ⟨b,dI,co,hb,hl,hi⟩;have hx:Ext w (Live Lo ι H) w' (Live Lo ι H):=hw.ext ho se nL (fun _ h=>h);obtain⟨D9,co',o1,g1,_,_,g4,_⟩:=h.obj b dI hb (by rw[hl];simp);rw[hi]at g1;cases g1
 refine⟨⟨h.below.trans (hw.below (g4 hl)),h.lo,?_,?_,?_,?_,?_,?_⟩,by rw[hL];exact hx⟩
 ·intro x p hp
  have:=h.Ik x p hp
  exact⟨by simpa using this.1,by rw[hw.size];exact this.2⟩
 ·intro x bk tQ hd;rw[hL];rw[aLp]at tQ;by_cases e:b=x
  ·subst e;rw[if_pos rfl,if_pos eh]at tQ;cases tQ
   exact⟨cb,co,o',hi,hw.here,hr,fun _=>g4 hl,fun XG=>by rw[pO]at XG;cases XG⟩
  ·rw[if_neg e]at tQ;obtain⟨c1,k1,ob,h1,h2,h3,h4,h5⟩:=h.obj x bk tQ hd;have ej:c1≠cb:=by
    intro e';cases dx:bk.st with
    |dead=>exact hd dx
    |ro=>exact h5 dx (e'▸nL)
    |live=>exact e (h.inj b x dI bk cb co k1 hb hl tQ dx hi (by rw[h1,e']))
   exact⟨c1,k1,ob,h1,by rw[hw.there c1 ej];exact h2,h3.ext hx (cT.le_refl _),h4,h5⟩
 ·intro x y bk Vf c k k' tQ hs hyb xp Iw hyi;have conv:∀(z:Nat) (bz:cE),(H.set b blk')[z]?=some bz->bz.st=.live->∃bz',H[z]?=some bz'/\bz'.st=.live:=by
   intro z bz hz XR;rw[aLp]at hz;by_cases e:b=z
   ·subst e;exact⟨dI,hb,hl⟩
   ·rw[if_neg e]at hz;exact⟨bz,hz,XR⟩
  obtain⟨b1,q1,q2⟩:=conv x bk tQ hs;obtain⟨b2,q3,q4⟩:=conv y Vf hyb xp;exact h.inj x y b1 b2 c k k' q1 q2 q3 q4 Iw hyi
 ·intro g cs hg;rw[hL];obtain⟨c,e,f,h1,h2,h3,hz⟩:=h.glob g cs hg
  have:=hx.keep h1 h2
  exact⟨c,e,f,this.1,this.2,iH.ext hx _ _ _ _ _ (cT.le_refl _) h3,hz⟩
 ·intro x bk tQ hs;rw[aLp]at tQ;by_cases e:b=x
  ·subst e;rw[if_pos rfl,if_pos eh]at tQ;cases tQ
   exact CZ
  ·rw[if_neg e]at tQ;exact h.qa x bk tQ hs
 ·intro x p hp q;rw[aLp]at q;by_cases e:b=x
  ·subst e;rw[if_pos rfl,if_pos eh]at q;cases q;cases pO
  ·rw[if_neg e]at q;exact h.res x p hp q
def fT.drew(h:fT E Lo w0 ι H w){w':World}(hh:w'.heap=w.heap)(hos:w'.os=w.os)(EJ:w'.tape=w.tape)(zP:w'.output=w.output):
  fT E Lo w0 ι H w'/\Ext w (Live Lo ι H) w' (Live Lo ι H):=by
 have hx:Ext w (Live Lo ι H) w' (Live Lo ι H):=⟨by rw[hh];exact aLt _,fun c _ hn=>⟨by rw[hh],hn⟩,fun c cs e f hc=>⟨cs,f,by rw[hh];exact hc,rfl⟩⟩;refine⟨⟨h.below.trans ⟨hos,EJ,zP,by rw[hh];exact aLt _,fun k _=>by rw[hh]⟩,h.lo,fun b p hp=>by rw[hh];exact h.Ik b p hp,?_,h.inj,?_,h.qa,h.res⟩,hx⟩
 ·intro b bk hb hd;obtain⟨c1,k1,ob,h1,h2,h3,h4,h5⟩:=h.obj b bk hb hd;exact⟨c1,k1,ob,h1,by rw[hh];exact h2,h3.ext hx (cT.le_refl _),h4,h5⟩
 ·intro g cs hg;obtain⟨c,e,f,h1,h2,h3,hz⟩:=h.glob g cs hg;exact⟨c,e,f,by rw[hh];exact h1,h2,iH.ext hx _ _ _ _ _ (cT.le_refl _) h3,hz⟩
def fT.weaken(h:fT E Lo w0 ι H w){H':Hp}(hlen:H'.length=H.length)(il:∀b:Nat,H'[b]?=some dp->H[b]?=some dp)
  (hb:∀(b:Nat) (blk':cE),H'[b]?=some blk'->blk'.st≠ .dead->H[b]?=some blk'∨∃dI,H[b]?=some dI/\dI.st=.live/\blk'.st=.ro/\∀ι w L co o,fY ι w L co dI o->fY ι w L co blk' o):
  fT E Lo w0 ι H' w/\Ext w (Live Lo ι H) w (Live Lo ι H'):=by
 have hL:∀c,Live Lo ι H' c->Live Lo ι H c:=by
  rintro c (hc|⟨b,bk,co,h1,h2,h3⟩)
  ·exact .inl hc
  ·rcases hb b bk h1 (by rw[h2];simp)with h'|⟨b0,_,_,h5,_⟩
   ·exact .inr ⟨b,bk,co,h',h2,h3⟩
   ·rw[h2]at h5;cases h5
 have hx:Ext w (Live Lo ι H) w (Live Lo ι H'):=⟨aLt _,fun c _ hn=>⟨rfl,fun h'=>hn (hL c h')⟩,fun c cs e f hc=>⟨cs,f,hc,rfl⟩⟩;have yB:∀(z:Nat) (bz:cE),H'[z]?=some bz->bz.st=.live->H[z]?=some bz:=by
  intro z bz hz hs;rcases hb z bz hz (by rw[hs];simp)with h'|⟨_,_,_,h5,_⟩
  ·exact h'
  ·rw[hs]at h5;cases h5
 refine⟨⟨h.below,h.lo,fun b p hp=>by rw[hlen];exact h.Ik b p hp,?_,?_,?_,fun b bk Ss hs=>h.qa b bk (yB b bk Ss hs) hs,fun b p hp q=>h.res b p hp (il b q)⟩,hx⟩
 ·intro b bk GW hd;rcases hb b bk GW hd with h'|⟨b0,g1,g2,g3,g4⟩
  ·obtain⟨c1,k1,ob,h1,h2,h3,h4,h5⟩:=h.obj b bk h' hd;exact⟨c1,k1,ob,h1,h2,h3.ext hx (cT.le_refl _),h4,fun hr hl=>h5 hr (hL _ hl)⟩
  ·obtain⟨c1,k1,ob,h1,h2,h3,h4,h5⟩:=h.obj b b0 g1 (by rw[g2];simp);refine⟨c1,k1,ob,h1,h2,(g4 _ _ _ _ _ h3).ext hx (cT.le_refl _),(fun hl=>by rw[g3]at hl;cases hl),fun _ hl=>?_⟩;rcases hl with hl|⟨b',Vf,co',q1,q2,q3⟩
   ·have:=h.lo c1 hl
    have:=h4 g2
    omega
   ·have q4:=yB b' Vf q1 q2
    have:=h.inj b b' b0 Vf c1 k1 co' g1 g2 q4 q2 h1 q3
    subst this;rw[q1]at GW;cases GW
    rw[q2]at g3;cases g3
 ·intro x y bk Vf c k k' tQ hs hyb xp Iw hyi;exact h.inj x y bk Vf c k k' (yB x bk tQ hs) hs (yB y Vf hyb xp) xp Iw hyi
 ·intro g cs hg;obtain⟨c,e,f,h1,h2,h3,hz⟩:=h.glob g cs hg;exact⟨c,e,f,h1,fun hl=>h2 (hL _ hl),iH.ext hx _ _ _ _ _ (cT.le_refl _) h3,hz⟩
def fT.kill(h:fT E Lo w0 ι H w){b:Nat}(cs:List AV)(pN:cs≠[bT]):fT E Lo w0 ι (H.set b (.cells .dead cs)) w/\Ext w (Live Lo ι H) w (Live Lo ι (H.set b (.cells .dead cs))):=
 h.weaken (by simp) (fun x hx=>by
  rw[aLp]at hx;by_cases e:b=x
  ·rw[if_pos e]at hx;split at hx
   ·exact absurd (by simpa[dp]using hx) pN
   ·cases hx
  ·rw[if_neg e]at hx;exact hx) fun x bk hx hd=>by
  rw[aLp]at hx;by_cases e:b=x
  ·rw[if_pos e]at hx;split at hx
   ·cases hx;exact absurd rfl hd
   ·cases hx
  ·rw[if_neg e]at hx;exact .inl hx
def fT.ZI(h:fT E Lo w0 ι H w){b aR cb co co':Nat}{dI blk':cE}{cs0:List AV}{o o':Obj}{w':World}(hb:H[b]?=some dI)(hl:dI.st=.live)(pO:blk'.st=.live)
  (hf:mG ι H aR) (hi:ι b=some (cb,co)) (ho:w.heap[cb]?=some o) (se:jP o o') (hw:Ej w w' cb o')
  (hr:fY (ι.put aR (cb,co')) w' (Live Lo ι H) co' blk' o') (pN:cs0≠[bT]) (CZ:blk'.qa E:=by trivial):
  fT E Lo w0 (ι.put aR (cb,co')) (cO (H.set b (.cells .dead cs0)) aR blk') w'/\
   Ext w (Live Lo ι H) w' (Live Lo (ι.put aR (cb,co')) (cO (H.set b (.cells .dead cs0)) aR blk')):=by
 have eh:=(aLq.1 hb).1;have Xg:b≠aR:=fun e=>by subst e;rw[hf.1]at hi;cases hi
 have EE:aR<=(H.set b (.cells .dead cs0)).length:=by simpa using hf.le
 have get:∀x,(cO (H.set b (.cells .dead cs0)) aR blk')[x]?=if x=aR then some blk' else if x=b then some (.cells .dead cs0)else H[x]?:=by
  intro x;rw[mY EE x,aLp];by_cases e:x=aR
  ·rw[if_pos e,if_pos e]
  ·rw[if_neg e,if_neg e];by_cases e2:b=x
   ·subst e2;simp[eh]
   ·rw[if_neg e2,if_neg (fun q=>e2 q.symm)]
 have nL:Live Lo ι H cb:=.inr ⟨b,dI,co,hb,hl,hi⟩;have hL:Live Lo (ι.put aR (cb,co')) (cO (H.set b (.cells .dead cs0)) aR blk')=Live Lo ι H:=by
  refine Live.congr fun c=>⟨?_,?_⟩
  ·rintro(hc|⟨x,bk,k,h1,h2,h3⟩)
   ·exact .inl hc
   ·rw[get]at h1;unfold cT.put at h3;by_cases e:x=aR
    ·rw[if_pos e]at h3;cases h3;exact nL
    ·rw[if_neg e]at h1 h3;by_cases e2:x=b
     ·rw[if_pos e2]at h1;cases h1;cases h2
     ·rw[if_neg e2]at h1;exact .inr ⟨x,bk,k,h1,h2,h3⟩
  ·rintro(hc|⟨x,bk,k,h1,h2,h3⟩)
   ·exact .inl hc
   ·by_cases e2:x=b
    ·subst e2;rw[hi]at h3;cases h3
     exact .inr ⟨aR,blk',co',by rw[get,if_pos rfl],pO,by unfold cT.put;rw[if_pos rfl]⟩
    ·have e:x≠aR:=fun e=>by subst e;rw[hf.1]at h3;cases h3
     exact .inr ⟨x,bk,k,by rw[get,if_neg e,if_neg e2];exact h1,h2,by unfold cT.put;rw[if_neg e];exact h3⟩
 have hx:Ext w (Live Lo ι H) w' (Live Lo ι H):=hw.ext ho se nL (fun _ h=>h);have hle:=cT.wT (p:=(cb,co')) hf.1;obtain⟨D9,aFB,o1,g1,g2',_,g4,_⟩:=h.obj b dI hb (by rw[hl];simp);rw[hi]at g1;cases g1
 rw[hL];refine⟨⟨h.below.trans (hw.below (g4 hl)),h.lo,?_,?_,?_,?_,?_,?_⟩,hx⟩
 ·intro x p hp;have qp:=KV (dI:=blk') EE;rw[List.length_set]at qp;unfold cT.put at hp;split at hp
  ·rename_i e;subst e;cases hp;exact⟨qp.2,by rw[hw.size];exact(h.Ik b _ hi).2⟩
  ·have:=h.Ik x p hp
   exact⟨by omega,by rw[hw.size];exact this.2⟩
 ·intro x bk tQ hd;rw[hL];rw[get]at tQ;by_cases e:x=aR
  ·subst e;rw[if_pos rfl]at tQ;cases tQ
   exact⟨cb,co',o',by simp[cT.put],hw.here,hr,fun _=>g4 hl,fun XG=>by rw[pO]at XG;cases XG⟩
  ·rw[if_neg e]at tQ;by_cases e2:x=b
   ·rw[if_pos e2]at tQ;cases tQ;exact absurd rfl hd
   ·rw[if_neg e2]at tQ;obtain⟨c1,k1,ob,h1,h2,h3,h4,h5⟩:=h.obj x bk tQ hd;have ej:c1≠cb:=by
     intro e';cases dx:bk.st with
     |dead=>exact hd dx
     |ro=>exact h5 dx (e'▸nL)
     |live=>exact e2 (h.inj x b bk dI cb k1 co tQ dx hb hl (by rw[h1,e']) hi)
    exact⟨c1,k1,ob,hle _ _ h1,by rw[hw.there c1 ej];exact h2,h3.ext hx hle,h4,h5⟩
 ·intro x y bk Vf c k k' tQ hs hyb xp Iw hyi;have conv:∀(z:Nat) (bz:cE) (kz:Nat),(cO (H.set b (.cells .dead cs0)) aR blk')[z]?=some bz->bz.st=.live->(ι.put aR (cb,co')) z=some (c,kz)->
    ∃z' bz' kz',H[z']?=some bz'/\bz'.st=.live/\ι z'=some (c,kz')/\(z=aR/\z'=b∨z≠aR/\z≠b/\z'=z):=by
   intro z bz kz hz XR hzi;rw[get]at hz;unfold cT.put at hzi;by_cases e:z=aR
   ·rw[if_pos e]at hzi;cases hzi
    exact⟨b,dI,co,hb,hl,hi,.inl ⟨e,rfl⟩⟩
   ·rw[if_neg e]at hz hzi;by_cases e2:z=b
    ·rw[if_pos e2]at hz;cases hz;cases XR
    ·rw[if_neg e2]at hz;exact⟨z,bz,kz,hz,XR,hzi,.inr ⟨e,e2,rfl⟩⟩
  obtain⟨x',b1,k1,q1,q2,q3,q4⟩:=conv x bk k tQ hs Iw;obtain⟨y',b2,k2,r1,r2,r3,r4⟩:=conv y Vf k' hyb xp hyi
  have:=h.inj x' y' b1 b2 c k1 k2 q1 q2 r1 r2 q3 r3
  rcases q4 with⟨q4,q5⟩|⟨q4,q5,q6⟩<;>rcases r4 with⟨r4,r5⟩|⟨r4,r5,r6⟩
  ·rw[q4,r4]
  ·exact absurd (by rw[<-r6,<-this,q5]) r5
  ·exact absurd (by rw[<-q6,this,r5]) q5
  ·rw[<-q6,<-r6,this]
 ·intro g cs hg;rw[hL];obtain⟨c,e,f,h1,h2,h3,hz⟩:=h.glob g cs hg
  have:=hx.keep h1 h2
  exact⟨c,e,f,this.1,this.2,iH.ext hx _ _ _ _ _ (cT.le_refl _) h3,hz⟩
 ·intro x bk tQ hs;rw[get]at tQ;split at tQ
  ·cases tQ;exact CZ
  ·split at tQ
   ·cases tQ;cases hs
   ·exact h.qa x bk tQ hs
 ·intro x p hp q;rw[get]at q;unfold cT.put at hp;by_cases e:x=aR
  ·rw[if_pos e]at q;cases q;cases pO
  ·rw[if_neg e]at q hp;by_cases e2:x=b
   ·rw[if_pos e2]at q;exact pN (by simpa[dp]using q)
   ·rw[if_neg e2]at q;exact h.res x p hp q
end
end Dv
