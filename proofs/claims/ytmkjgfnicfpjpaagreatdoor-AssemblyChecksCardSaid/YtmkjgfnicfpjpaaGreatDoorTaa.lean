/- Lemmas for AssemblyChecks; no condition. -/
import Derived.Calls
import Derived.Orders
import Derived.Below
import Derived.RangeFuncLeaves
import Derived.OrdersIn
import Derived.Laws.IdiomCopy
import Derived.Laws.Append
import Derived.Laws.IdiomRangeMap
set_option linter.all false
set_option maxHeartbeats 100000000
set_option maxRecDepth 100000
noncomputable section
open List renaming getElem?_set->aKA,getElem?_eq_some_iff->aKB,replicate->aKF,getElem?_eq_none->aKG,getElem?_append->aKH,getElem?_take->aKI,getElem?_drop->aKJ
open Array renaming getElem?_push->aKC
open Option renaming map_eq_some_iff->aKD
open Nat renaming le_refl->aKE
namespace Dv
open Go
noncomputable section
inductive AV where
 |bool (b:Bool)
 |int (k:IntKind) (n:Int)
 |str (s:List UInt8)
 |gQ
 |bI (b off:Nat)
 |cU (cells:List AV) (off:Nat)
 |ie (g off:Nat)
 |aH
 |dx
 |aI (b off len esz kc:Nat)
 |aK (cells:List AV) (len:Nat)
 |gd
 |eS (b:Nat)
 |vM (keys aBz:List AV)
 |fQ
 |func (f:Nat) (first cap:List AV)
 |nilIface
 |iface (t:Nat) (v:AV)
 |agg (cells:List AV)
 |tuple (vs:List AV)
 |yield (l:Nat)
 deriving Inhabited
inductive oe where
 |live|ro|dead
 deriving DecidableEq,Inhabited
inductive ct where
 |cells (st:oe) (cs:List AV)
 |map (st:oe) (keys aBz:List AV)
 |iG (s:List UInt8) (pos:Nat)
 |loop (st:LoopState) (pending:Option Code) (ts:List AV) (params:List Nat) (assign body:Code)
 deriving Inhabited
abbrev Hp:=List ct
structure sO where
 cD:TypeDesc
 isAgg:Bool
 size:Nat
 bytes:Nat
 zero:Option (List AV)
 dQ:Bool
 deriving Inhabited
structure FnI where
 code:Code
 ntmps:Nat
 results:List ResultVar
 pure:Bool
 eE:Bool
 deriving Inhabited
structure Env where
 ty:Nat->Option sO
 fn:Nat->Option FnI
 glob:Nat->Option (List AV)
 ov:Nat->List AV->Option AV
 rC:Nat->List AV->Hp->Option (AV×Hp)
 pairs:Nat->Nat->List (Nat×Nat)
def bS:AV:=.tuple []
def AV.cells:AV->List AV
 |.agg cs=>cs
 |v=>[v]
def eZ{α β:Type}(f:α->Option β):List α->Option (List β)
 |[]=>some []
 |x::xs=>match f x with
  |none=>none
  |some y=>match eZ f xs with
   |none=>none
   |some ys=>some (y::ys)
def cL:AV->Bool
 |.agg _|.tuple _=>false
 |_=>true
def Bd:Nat->Value->Option AV
 |0,_=>none
 |n+1,v=>match v with
  |.bool b=>some (.bool b)
  |.int k n=>some (.int k n)
  |.string s=>some (.str s.data.toList)
  |.pointer none=>some .gQ
  |.slice none 0 0=>some .aH
  |.map none=>some .gd
  |.nilFunc=>some .fQ
  |.nilIface=>some .nilIface
  |.agg cs=>(eZ (Bd n) cs.toList).map .agg
  |.tuple cs=>(eZ (Bd n) cs.toList).map .tuple
  |.iface t v=>(Bd n v).map (.iface t)
  |_=>none
def anY(v:Value):Option AV:=Bd 20 v
mutual
def aU:AV->Bool
 |.bI .. |.aI .. |.eS _|.yield _=>false
 |.agg cs=>aV cs
 |.tuple cs=>aV cs
 |.iface _ v=>aU v
 |.func _ a b=>aV a&&aV b
 |_=>true
def aV:List AV->Bool
 |[]=>true
 |x::xs=>aU x&&aV xs
end
def bY:AV->Bool
 |.bool _|.int .. |.str _|.gQ|.aH|.dx|.gd|.fQ|.nilIface=>true
 |.agg cs=>tV cs
 |.tuple cs=>tV cs
 |_=>false
where
 tV:List AV->Bool
 |[]=>true
 |x::xs=>bY x&&tV xs
def fz(H:Hp):Nat->AV->Option (AV×List Nat)
 |0,_=>none
 |n+1,av=>
  let l (cs:List AV):Option (List AV×List Nat):=(eZ (fz H n) cs).map fun r=>(r.map (·.1),r.flatMap (·.2))
  match av with
  |.bI b off=>match H[b]? with
   |some (.cells st cs)=>if st=.dead then none else(l cs).map fun(c,bs)=>(.cU c off,b::bs)
   |_=>none
  |.aI b off len esz _=>match H[b]? with
   |some (.cells st cs)=>if st=.dead||cs.length<off+len*esz then none else
    (l ((cs.drop off).take (len*esz))).map fun(c,bs)=>(.aK c len,b::bs)
   |_=>none
  |.eS b=>match H[b]? with
   |some (.map st ks vs)=>if st=.dead then none else match l ks,l vs with
    |some (k,b1),some (v,b2)=>some (.vM k v,b::(b1++b2))
    |_,_=>none
   |_=>none
  |.agg cs=>(l cs).map fun(c,bs)=>(.agg c,bs)
  |.tuple cs=>(l cs).map fun(c,bs)=>(.tuple c,bs)
  |.iface t v=>(fz H n v).map fun(c,bs)=>(.iface t c,bs)
  |.func f a c=>match l a,l c with
   |some (a,b1),some (c,b2)=>some (.func f a c,b1++b2)
   |_,_=>none
  |.yield _=>none
  |v=>some (v,[])
def ct.j7:ct->ct
 |.cells .live cs=>.cells .ro cs
 |.map .live ks vs=>.map .ro ks vs
 |b=>b
def mark(H:Hp)(bs:List Nat):Hp:=bs.foldl (fun H b=>H.modify b ct.j7) H
def bW(H:Hp)(vs:List AV):Option (List AV×List Nat):=
 if aV vs then some (vs,[])else
 match eZ (fz H 40) vs with
 |none=>none
 |some r=>some (r.map (·.1),r.flatMap (·.2))
inductive cC where
 |bJ (l:List (Nat×ct))
 |marks (l:List Nat)
 |looks (l:List Nat)
 |Es (H:Hp)
def cJ(H:Hp)(b:Nat)(x:ct):Hp:=if b<H.length then H.set b x else H++[x]
def cC.app(H:Hp):cC->Hp
 |.bJ l=>l.foldl (fun H p=>cJ H p.1 p.2) H
 |.marks l=>mark H l
 |.looks _=>H
 |.Es H'=>H'
def aW(k:IntKind)(n:Int):Int:=k.wrap n
def k7(op:BinOp)(k:IntKind)(a b:Int):Option AV:=
 match op with
 |.add=>some (.int k (aW k (a+b)))
 |.sub=>some (.int k (aW k (a-b)))
 |.mul=>some (.int k (aW k (a*b)))
 |.quo=>if b=0 then none else some (.int k (aW k (a.tdiv b)))
 |.rem=>if b=0 then none else some (.int k (a.tmod b))
 |.and=>some (.int k (aW k (BitVec.ofInt k.bits a&&&BitVec.ofInt k.bits b).toNat))
 |.or=>some (.int k (aW k (BitVec.ofInt k.bits a|||BitVec.ofInt k.bits b).toNat))
 |.xor=>some (.int k (aW k (BitVec.ofInt k.bits a^^^BitVec.ofInt k.bits b).toNat))
 |.andNot=>some (.int k (aW k (BitVec.ofInt k.bits a&&& ~~~BitVec.ofInt k.bits b).toNat))
 |.eql=>some (.bool (a==b))
 |.neq=>some (.bool (a !=b))
 |.lss=>some (.bool (a<b))
 |.leq=>some (.bool (a<=b))
 |.gtr=>some (.bool (a>b))
 |.geq=>some (.bool (a≥b))
 |_=>none
def OS(op:BinOp)(a b:List UInt8):Option AV:=
 match op with
 |.add=>if((a.length+b.length:Nat):Int)>9223372036854775807 then none else some (.str (a++b))
 |.eql=>some (.bool (a==b))
 |.neq=>some (.bool (!(a==b)))
 |.lss=>some (.bool (Op.bytesLess a b))
 |.leq=>some (.bool (Op.bytesLess a b||a==b))
 |.gtr=>some (.bool (!(Op.bytesLess a b||a==b)))
 |.geq=>some (.bool (!Op.bytesLess a b))
 |_=>none
def gl(E:Env)(t:Nat)(cs:List AV)(off:Nat):Option AV:=
 match E.ty t with
 |none=>none
 |some i=>if i.isAgg then(if off+i.size<=cs.length then some (.agg ((cs.drop off).take i.size))else none)else cs[off]?
def eqFields(E:Env)(eq:Nat->AV->AV->Option Bool)(xs ys:List AV):List Field->Option Bool
 |[]=>some true
 |f::fs=>
  if f.name= "_" then none else
  match gl E f.type xs f.offset,gl E f.type ys f.offset with
  |some a,some b=>match eq f.type a b with
   |some true=>eqFields E eq xs ys fs
   |some false=>some false
   |none=>none
  |_,_=>none
def mz(E:Env)(eq:Nat->AV->AV->Option Bool)(elem size:Nat)(xs ys:List AV):Nat->Nat->Option Bool
 |0,_=>some true
 |m+1,i=>
  match gl E elem xs (i*size),gl E elem ys (i*size)with
  |some a,some b=>match eq elem a b with
   |some true=>mz E eq elem size xs ys m (i+1)
   |some false=>some false
   |none=>none
  |_,_=>none
def qi(E:Env):Nat->Nat->AV->AV->Option Bool
 |0,_,_,_=>none
 |n+1,t,x,y=>
  match E.ty t with
  |none=>none
  |some i=>
  match i.cD,x,y with
  |.bool,.bool a,.bool b=>some (a==b)
  |.int _,.int k a,.int k' b=>if k=k' then some (a==b)else none
  |.string,.str a,.str b=>some (a==b)
  |.struct fields,.agg xs,.agg ys=>if !i.dQ then none else eqFields E (qi E n) xs ys fields.toList
  |.array len elem,.agg xs,.agg ys=>match E.ty elem with
   |none=>none
   |some ei=>mz E (qi E n) elem ei.size xs ys len 0
  |.pointer _,.gQ,.gQ=>some true
  |.pointer _,.gQ,.bI .. |.pointer _,.gQ,.cU .. |.pointer _,.bI ..,.gQ|.pointer _,.cU ..,.gQ=>some false
  |.slice _,.aH,.aH=>some true
  |.slice _,.aH,.aI .. |.slice _,.aH,.aK .. |.slice _,.aH,.dx
  |.slice _,.aI ..,.aH|.slice _,.aK ..,.aH|.slice _,.dx,.aH=>some false
  |.map _ _,.gd,.gd=>some true
  |.map _ _,.gd,.eS _|.map _ _,.gd,.vM .. |.map _ _,.eS _,.gd|.map _ _,.vM ..,.gd=>some false
  |.func _ _ _,.fQ,.fQ=>some true
  |.func _ _ _,.fQ,.func .. |.func _ _ _,.func ..,.fQ=>some false
  |.interface _,.nilIface,.nilIface=>some true
  |.interface _,.nilIface,.iface .. |.interface _,.iface ..,.nilIface=>some false
  |_,_,_=>none
def cd(E:Env)(c:Bool)(op:BinOp)(t:Nat)(x y:AV):Option AV:=
 match op,x,y with
 |.shl,.int k a,.int _ b=>if b<0 then none else some (.int k (aW k (a*2^(min b.toNat k.bits))))
 |.shr,.int k a,.int _ b=>if b<0 then none else some (.int k (a.fdiv (2^(min b.toNat k.bits))))
 |op,.int k a,.int k' b=>if k≠k' then none else k7 op k a b
 |op,.str a,.str b=>OS op a b
 |.eql,x,y=>(rY x y).bind fun ok=>if ok then(qi E 20 t x y).map .bool else none
 |.neq,x,y=>(rY x y).bind fun ok=>if ok then(qi E 20 t x y).map (fun b=>.bool (!b))else none
 |_,_,_=>none
where
 rY (x y:AV):Option Bool:=match x,y with
  |.agg _,.agg _=>(E.ty t).map (·.dQ)
  |.nilIface,.nilIface=>some c
  |_,_=>some true
def TQ(op:UnOp)(x:AV):Option AV:=
 match op,x with
 |.neg,.int k n=>some (.int k (aW k (0-n)))
 |.xor,.int k n=>k7 .xor k (if k.signed then-1 else k.max) n
 |.not,.bool b=>some (.bool !b)
 |_,_=>none
def fD(place:Nat->Option (Nat×Nat))(cells:List AV):List (Nat×AV)->Option (List AV)
 |[]=>some cells
 |(i,v)::rest=>
  match place i with
  |none=>none
  |some (off,size)=>
   if v.cells.length≠size||off+size>cells.length then none
   else fD place (cells.take off++v.cells++cells.drop (off+size)) rest
def gD(zero:List AV):Nat->List AV
 |0=>[]
 |n+1=>zero++gD zero n
def fA(E:Env)(t:Nat):Option (Nat->Option (Nat×Nat)):=
 match E.ty t with
 |some {cD:=.struct fields,..}=>if fields.toList.all (fun f=>(E.ty f.type).isSome)then some fun i=>match fields[i]? with
  |some f=>(E.ty f.type).map fun fi=>(f.offset,fi.size)
  |none=>none
  else none
 |some {cD:=.array _ elem,..}=>(E.ty elem).map fun ei=>fun i=>some (i*ei.size,ei.size)
 |_=>none
def yG(E:Env)(H:Hp):AV->Option (List AV×Nat)
 |.bI b off=>match H[b]? with
  |some (.cells st cs)=>if st=.dead then none else some (cs,off)
  |_=>none
 |.cU cs off=>some (cs,off)
 |.ie g off=>(E.glob g).map fun cs=>(cs,off)
 |_=>none
def dW(E:Env)(H:Hp)(t:Nat)(p:AV):Option AV:=
 match yG E H p with
 |some (cs,off)=>gl E t cs off
 |none=>none
def cV(cs:List AV)(off:Nat)(xs:List AV):List AV:=cs.take off++xs++cs.drop (off+xs.length)
def fe(E:Env)(H:Hp)(t:Nat)(p v:AV):Option (List (Nat×ct)):=
 match p,E.ty t with
 |.bI b off,some i=>match H[b]? with
  |some (.cells .live cs)=>
   if v.cells.length≠i.size||off+i.size>cs.length||!v.cells.all cL then none
   else some [(b,.cells .live (cV cs off v.cells))]
  |_=>none
 |_,_=>none
def asNat(nB:Nat):AV->Option Nat
 |.int _ n=>if 0<=n/\n<=nB then some n.toNat else none
 |_=>none
def hiE(len kc:Nat):Option AV->Option Nat
 |none=>some len
 |some v=>asNat kc v
def loE(h:Nat):Option AV->Option Nat
 |none=>some 0
 |some v=>asNat h v
def fN(len kc:Nat)(lo hi:Option AV):Option (Nat×Nat):=
 match hiE len kc hi with
 |none=>none
 |some h=>match loE h lo with
  |none=>none
  |some l=>some (l,h)
def gg(E:Env)(t:Nat)(x:AV)(lo hi:Option AV):Option AV:=
 match E.ty t with
 |none=>none
 |some i=>
 match i.cD,x with
 |.string,.str s=>(fN s.length s.length lo hi).map fun(l,h)=>.str ((s.drop l).take (h-l))
 |.slice e,.aH=>match E.ty e,fN 0 0 lo hi with
  |some _,some _=>some .aH
  |_,_=>none
 |.slice e,.dx=>match E.ty e,fN 0 0 lo hi with
  |some _,some _=>some .dx
  |_,_=>none
 |.slice e,.aI b off len esz kc=>match E.ty e,fN len kc lo hi with
  |some ei,some (l,h)=>if ei.size≠esz then none
   else if l=0 then some (.aI b off h esz kc)
   else if l=h then some .dx
   else some (.aI b (off+l*esz) (h-l) esz (kc-l))
  |_,_=>none
 |.slice e,.aK cs len=>match E.ty e,fN len len lo hi with
  |some ei,some (l,h)=>
   if l=h then some .dx
   else some (.aK ((cs.drop (l*ei.size)).take ((h-l)*ei.size)) (h-l))
  |_,_=>none
 |_,_=>none
def gY(E:Env)(H:Hp)(t:Nat)(p:AV)(lo hi:Option AV):Option AV:=
 match E.ty t with
 |some {cD:=.array n e,..}=>match E.ty e,fN n n lo hi with
  |some ei,some (l,h)=>
   match p with
   |.bI b off=>match H[b]? with
    |some (.cells st cs)=>if st=.dead∨cs.length<off+n*ei.size∨cs.length=0 then none else
     if l=h then some .dx else some (.aI b (off+l*ei.size) (h-l) ei.size (n-l))
    |_=>none
   |.cU cs off=>if l=h then some .dx else some (.aK ((cs.drop (off+l*ei.size)).take ((h-l)*ei.size)) (h-l))
   |_=>none
  |_,_=>none
 |_=>none
def b9(E:Env)(t:Nat)(x ix:AV):Option AV:=
 match E.ty t,ix with
 |some i,.int _ n=>
  match i.cD with
  |.array len e=>match E.ty e with
   |some ei=>if 0<=n/\n<len then(match x with
    |.bI b off=>some (.bI b (off+n.toNat*ei.size))
    |.cU cs off=>some (.cU cs (off+n.toNat*ei.size))
    |.ie g off=>some (.ie g (off+n.toNat*ei.size))
    |_=>none)else none
   |none=>none
  |.slice e=>match E.ty e with
   |some ei=>(match x with
    |.aI b off len esz _=>if esz=ei.size/\0<=n/\n<len then some (.bI b (off+n.toNat*esz))else none
    |.aK cs len=>if 0<=n/\n<len then some (.cU cs (n.toNat*ei.size))else none
    |_=>none)
   |none=>none
  |_=>none
 |_,_=>none
def lD(E:Env)(t:Nat)(x ix:AV):Option AV:=
 match E.ty t,ix with
 |some i,.int _ n=>
  match i.cD,x with
  |.array len e,.agg cs=>match E.ty e with
   |some ei=>if 0<=n/\n<len then gl E e cs (n.toNat*ei.size)else none
   |none=>none
  |.string,.str s=>if 0<=n then(s[n.toNat]?).map fun b=>.int .u8 b.toNat else none
  |_,_=>none
 |_,_=>none
def cP(E:Env)(t:Nat)(x:AV)(f:Nat):Option AV:=
 match E.ty t with
 |some {cD:=.struct fields,..}=>match fields[f]? with
  |some fd=>match E.ty fd.type with
   |some fi=>if fi.size=0 then none else(match x with
    |.bI b off=>some (.bI b (off+fd.offset))
    |.cU cs off=>some (.cU cs (off+fd.offset))
    |.ie g off=>some (.ie g (off+fd.offset))
    |_=>none)
   |none=>none
  |none=>none
 |_=>none
def CG(E:Env)(t:Nat)(x:AV)(f:Nat):Option AV:=
 match E.ty t,x with
 |some {cD:=.struct fields,..},.agg cs=>match fields[f]? with
  |some fd=>gl E fd.type cs fd.offset
  |none=>none
 |_,_=>none
def Cr(E:Env)(src dst:Nat)(x:AV):Option AV:=
 match E.ty src,E.ty dst,x with
 |some _,some {cD:=.int k,..},.int _ n=>some (.int k (aW k n))
 |some _,some {cD:=.string,..},.str s=>some (.str s)
 |_,_,_=>none
def zA:List AV->Option (List UInt8)
 |[]=>some []
 |.int .u8 n::cs=>(zA cs).map (UInt8.ofNat n.toNat::·)
 |_=>none
def gO(H:Hp)(esz:Nat):AV->Option (List AV)
 |.aH|.dx=>some []
 |.aK cs len=>if cs.length=len*esz then some cs else none
 |.aI b off len e _=>if e≠esz then none else match H[b]? with
  |some (.cells st cs)=>if st=.dead∨cs.length<off+len*esz then none else some ((cs.drop off).take (len*esz))
  |_=>none
 |_=>none
def l9:AV->Option Nat
 |.aH|.dx=>some 0
 |.aK _ n=>some n
 |.aI _ _ n _ _=>some n
 |.str s=>some s.length
 |_=>none
def plainKey(E:Env):Nat->Nat->Bool
 |0,_=>false
 |n+1,t=>match E.ty t with
  |some i=>(match i.cD with
   |.int _|.string|.bool=>true
   |.array _ e=>plainKey E n e
   |.struct fs=>i.dQ&&fs.toList.all fun f=>plainKey E n f.type
   |_=>false)
  |none=>false
def jk(E:Env)(kt:Nat)(k x:AV):Option Bool:=qi E 20 kt k x
def HL:Nat->AV->AV->Bool
 |_,.bool a,.bool b=>a==b
 |_,.int k a,.int j b=>k==j&&a==b
 |_,.str a,.str b=>a==b
 |n+1,.agg xs,.agg ys=>xs.length==ys.length&&(xs.zip ys).all fun(x,y)=>HL n x y
 |_,_,_=>false
def pA(eq:AV->AV->Option Bool)(k:AV):List AV->List AV->Nat->Option (Option (Nat×AV))
 |x::xs,v::vs,i=>match eq k x with
  |some true=>some (some (i,v))
  |some false=>pA eq k xs vs (i+1)
  |none=>none
 |[],[],_=>some none
 |_,_,_=>none
def eo(E:Env)(t:Nat):Option AV:=
 match E.ty t with
 |some i=>match i.zero with
  |some cs=>if i.isAgg then some (.agg cs)else(match cs with|[c]=>some c|_=>none)
  |none=>none
 |none=>none
def Ho(H:Hp):AV->Option (List AV×List AV)
 |.gd=>some ([],[])
 |.vM ks vs=>some (ks,vs)
 |.eS b=>match H[b]? with
  |some (.map st ks vs)=>if st=.dead then none else some (ks,vs)
  |_=>none
 |_=>none
def jT(E:Env)(H:Hp)(t:Nat)(m k:AV)(ok:Bool):Option AV:=
 match E.ty t with
 |some {cD:=.map kt et,..}=>match Ho H m with
  |some (ks,vs)=>if !plainKey E 20 kt||jk E kt k k !=some true then none else match pA (jk E kt) k ks vs 0 with
   |some (some (_,v))=>some (if ok then .tuple [v,.bool true]else v)
   |some none=>(eo E et).map fun z=>if ok then .tuple [z,.bool false]else z
   |none=>none
  |none=>none
 |_=>none
def fU(E:Env)(H:Hp)(t:Nat)(m k v:AV):Option (List (Nat×ct)):=
 match E.ty t,m with
 |some {cD:=.map kt _,..},.eS b=>match H[b]? with
  |some (.map .live ks vs)=>if !plainKey E 20 kt then none else match jk E kt k k,pA (jk E kt) k ks vs 0 with
   |some true,some (some (i,_))=>(match ks[i]? with
    |some k0=>if HL 20 k0 k then some [(b,.map .live ks (vs.set i v))]else none
    |none=>none)
   |some true,some none=>some [(b,.map .live (ks++[k]) (vs++[v]))]
   |_,_=>none
  |_=>none
 |_,_=>none
def eU:Nat:=140737488355328
def fp(E:Env)(aP:Nat)(t:Nat)(l c:AV):Option (AV×List (Nat×ct)):=
 match E.ty t,l,c with
 |some {cD:=.slice e,..},.int _ n,.int _ m=>match E.ty e with
  |some ei=>match ei.zero with
   |some z=>
    if 0<=n/\n<=m/\m.toNat*ei.bytes<=eU/\m<=4611686018427387904/\z.length=ei.size/\0<ei.size then
     some (.aI aP 0 n.toNat ei.size m.toNat,[(aP,.cells .live (gD z m.toNat))])
    else none
   |none=>none
  |none=>none
 |_,_,_=>none
def mX(H:Hp)(esz:Nat)(x:AV):Option (List AV):=
 match x with
 |.str b=>if esz=1 then some (b.map fun(c:UInt8)=>AV.int .u8 c.toNat)else none
 |x=>gO H esz x
def qM(H:Hp)(ei:sO)(iz:Bool)(x:AV):Option (Nat×List AV):=
 if iz then(match x,ei.zero with
  |.int _ n,some z=>if 0<=n/\n<=4611686018427387904/\n.toNat*ei.bytes<=eU/\z.length=ei.size then some (n.toNat,gD z n.toNat)else none
  |_,_=>none)
 else(match l9 x,mX H ei.size x with
  |some n,some xs=>some (n,xs)
  |_,_=>none)
def dT(E:Env)(H:Hp)(aP:Nat)(iz:Bool)(t:Nat)(s x:AV):Option (AV×List (Nat×ct)):=
 match E.ty t with
 |some {cD:=.slice e,..}=>match E.ty e with
  |some ei=>
   match qM H ei iz x with
   |some (n,xs)=>
    if n=0 then(match s with|.aH|.dx|.aI .. |.aK .. =>some (s,[])|_=>none)else
    if ei.size=0||!xs.all cL||ei.zero.isNone then none else
    match s with
    |.aH=>
     if n*ei.bytes<=eU/\n<=4611686018427387904 then some (.aI aP 0 n ei.size n,[(aP,.cells .live xs)])else none
    |.aI b off len esz kc=>match H[b]? with
     |some (.cells .live cs)=>
      if len+n<=kc then(if esz=ei.size/\off+(len+n)*esz<=cs.length then
       some (.aI b off (len+n) esz kc,[(b,.cells .live (cV cs (off+len*esz) xs))])else none)else
      if esz=ei.size/\off+len*esz<=cs.length/\(len+n)*ei.bytes<=eU/\len+n<=4611686018427387904 then
       some (.aI aP 0 (len+n) esz (len+n),[(b,.cells .dead []),(aP,.cells .live ((cs.drop off).take (len*esz)++xs))])
      else none
     |_=>none
    |_=>none
   |none=>none
  |none=>none
 |_=>none
def kS(E:Env)(aP:Nat)(t:Nat)(s x:AV):Option (AV×List (Nat×ct)):=
 match E.ty t,s,x with
 |some {cD:=.slice e,..},.aH,.int _ n=>match E.ty e with
  |some ei=>match ei.zero with
   |some z=>
    if 0<n/\n<=4611686018427387904/\n.toNat*ei.bytes<=eU/\z.length=ei.size/\0<ei.size/\0<ei.bytes then
     some (.aI aP 0 n.toNat ei.size n.toNat,[(aP,.cells .live (gD z n.toNat))])
    else none
   |none=>none
  |none=>none
 |_,_,_=>none
def s7(E:Env)(H:Hp)(t:Nat)(d x:AV):Option (AV×List (Nat×ct)):=
 match E.ty t with
 |some {cD:=.slice e,..}=>match E.ty e with
  |some ei=>
   match l9 d,l9 x,mX H ei.size x with
   |some dn,some xn,some xs=>
    let n:=min xn dn
    if n=0 then(match d with|.aH|.dx|.aI .. =>some (.int .i64 0,[])|_=>none)else
    match d with
    |.aI b off _ esz _=>match H[b]? with
     |some (.cells .live cs)=>
      if esz=ei.size/\off+n*esz<=cs.length/\xs.all cL then
       some (.int .i64 n,[(b,.cells .live (cV cs off (xs.take (n*esz))))])
      else none
     |_=>none
    |_=>none
   |_,_,_=>none
  |none=>none
 |_=>none
def nw(E:Env)(H:Hp)(t:Nat)(x:AV):Option AV:=
 match E.ty t,x with
 |some {cD:=.string,..},.str s=>some (.int .i64 s.length)
 |some {cD:=.array n _,..},_=>some (.int .i64 n)
 |some {cD:=.slice _,..},.aH=>some (.int .i64 0)
 |some {cD:=.slice _,..},.dx=>some (.int .i64 0)
 |some {cD:=.slice _,..},.aK _ n=>some (.int .i64 n)
 |some {cD:=.slice _,..},.aI _ _ n _ _=>some (.int .i64 n)
 |some {cD:=.map _ _,..},m=>(Ho H m).map fun(ks,_)=>.int .i64 ks.length
 |_,_=>none
def AP:AV->AV->Option AV
 |.int k x,.int k' y=>if k=k' then some (.int k (if y>x then y else x))else none
 |_,_=>none
def KG:AV->AV->Option AV
 |.int k x,.int k' y=>if k=k' then some (.int k (if y<x then y else x))else none
 |_,_=>none
def qw(f:AV->AV->Option AV)(x:AV):List AV->Option AV
 |[]=>some x
 |y::ys=>match f x y with
  |some z=>qw f z ys
  |none=>none
def bB(E:Env)(H:Hp)(aP:Nat)(b:Builtin)(ats:List Nat)(args:List AV):Option (AV×List (Nat×ct)):=
 match b,ats,args with
 |.append,t::u::_,s::x::_=>(match E.ty u with
  |some {cD:=.int _,..}=>kS E aP t s x
  |some _=>dT E H aP false t s x
  |none=>none)
 |.copy,t::_,d::x::_=>s7 E H t d x
 |.cap,t::_,.aH::_=>(match E.ty t with
  |some {cD:=.slice _,..}=>some (.int .i64 0,[])
  |_=>none)
 |.len,t::_,x::_=>(nw E H t x).map fun v=>(v,[])
 |.max,_,x::xs=>(qw AP x xs).map fun v=>(v,[])
 |.min,_,x::xs=>(qw KG x xs).map fun v=>(v,[])
 |_,_,_=>none
inductive Cls where
 |n|r|s|w
 deriving DecidableEq,Repr
def bV(E:Env)(o:Oper):Bool:=
 match o.op with
 |.alloc _|.box .. |.buildSlice .. |.makeMap .. |.makeSlice .. |.range .. =>true
 |.convert s d _=>(match E.ty s,E.ty d with
  |some {cD:=.string,..},some {cD:=.slice _,..}=>true
  |_,_=>false)
 |.call c=>(match c.callee with
  |.builtin .append=>true
  |_=>false)
 |_=>false
def iJ(E:Env)(o:Oper):Cls:=
 match o.op with
 |.move _|.assign _|.pick .. |.build .. |.nilCheck _|.binOp .. |.unOp .. |.makeInterface .. |.makeFunc ..
 |.fieldAddr .. |.field .. |.indexAddr .. |.index .. |.extract .. |.sliceToArrayPointer .. =>.n
 |.load .. |.lookup .. =>.r
 |.slice t _ _ _ _=>(match E.ty t with
  |some {cD:=.array ..,..}=>.r
  |_=>.n)
 |.alloc _|.box .. |.buildSlice .. |.makeMap .. |.makeSlice .. |.range .. |.next .. |.store .. |.mapUpdate .. |.insert .. =>.s
 |.convert s d _=>(match E.ty s,E.ty d with
  |some {cD:=.string,..},some {cD:=.slice _,..}=>.s
  |_,_=>.r)
 |.call c=>(match c.callee with
  |.builtin .len=>.r
  |.builtin .max|.builtin .min|.builtin .cap=>.n
  |.builtin .copy|.builtin .append=>.s
  |.value (.func f)=>(match E.fn f with
   |some {pure:=false,eE:=false,..}=>.w
   |_=>.r)
  |_=>.w)
 |_=>.w
def Gh(ops:Array Oper)(j:Nat):Nat->Nat->Bool
 |0,_=>false
 |n+1,i=>match ops[i]? with
  |some o=>o.after.any fun e=>Region.binds .any e&&(e.on==j||(e.on<i&&Gh ops j n e.on))
  |none=>false
def yo(o:Oper):Bool:=match o.op with
 |.load .. =>true
 |_=>false
def XU(E:Env)(o:Oper):Bool:=match o.op with
 |.call c=>(match c.callee with
  |.value (.func f)=>(match E.fn f with
   |some {pure:=false,eE:=false,..}=>true
   |_=>false)
  |_=>false)
 |_=>false
def WM(E:Env)(ps:List (Nat×Nat))(j i:Nat)(oj oi:Oper):Bool:=
 match iJ E oj,iJ E oi with
 |.n,_|_,.n|.r,.r=>true
 |.r,.w=>yo oj&&XU E oi
 |.w,_|_,.w=>false
 |_,_=>ps.contains (j,i)
def yC(E:Env)(ps:List (Nat×Nat))(ops:Array Oper):Bool:=
 (List.range ops.size).all fun i=>match ops[i]? with
  |some oi=>(oi.after.all fun e=>!Region.binds .any e||e.on<i)&&(List.range i).all fun j=>
    match ops[j]? with
    |some oj=>(oi.apart ops oj&&WM E ps j i oj oi)||Gh ops j ops.size i
    |none=>true
  |none=>true
def flat:Code->Bool
 |.rangeFunc .. =>false
 |.seq a b=>flat a&&flat b
 |.cond _ a b=>flat a&&flat b
 |.block _ a=>flat a
 |.loop a=>flat a
 |.scope a=>flat a
 |_=>true
def codeOk(E:Env):Code->Bool
 |.region id ops draw=>!draw||yC E (E.pairs id ops.size) ops
 |.seq a b=>codeOk E a&&codeOk E b
 |.cond _ a b=>codeOk E a&&codeOk E b
 |.block _ a=>codeOk E a
 |.loop a=>codeOk E a
 |.rangeFunc _ _ a b=>codeOk E a&&codeOk E b&&flat a&&flat b
 |.scope a=>codeOk E a
 |_=>true
abbrev Pc:=Nat->List AV->Option AV
abbrev Ic:=Nat->List AV->Hp->Option (AV×Hp)
def bT(tmps:List AV):Operand->Option AV
 |.tmp t=>some (tmps[t]?.getD bS)
 |.const v=>anY v
 |.func f=>some (.func f [] [])
 |.global g=>some (.ie g 0)
def km(tmps:List AV):List Operand->Option (List AV)
 |[]=>some []
 |x::xs=>match bT tmps x with
  |none=>none
  |some v=>match km tmps xs with
   |none=>none
   |some vs=>some (v::vs)
def sC(tmps:List AV):List (Nat×Operand)->Option (List (Nat×AV))
 |[]=>some []
 |(i,x)::xs=>match bT tmps x with
  |none=>none
  |some v=>match sC tmps xs with
   |none=>none
   |some vs=>some ((i,v)::vs)
def gr(tmps:List AV):Option Operand->Option (Option AV)
 |none=>some none
 |some x=>(bT tmps x).map some
def r9(H h:Hp):Bool:=@decide (∀b,b<H.length->h[b]?=H[b]?) (Classical.propDecidable _)
def ka(E:Env)(pc:Pc)(ic yc:Ic)(dr:Bool)(H:Hp)(fv:AV)(args:List AV):Option (AV×cC):=
 match fv with
 |.yield l=>(yc l args H).map fun(v,h)=>(v,.Es h)
 |.func f first cap=>
  let all:=first++args++cap
  let ahU:Bool:=match E.fn f with
   |some {pure:=false,eE:=d,..}=>d&&dr
   |_=>true
  if ahU then
   match bW H all with
   |some (a_,bs)=>(pc f a_).map fun v=>(v,if bY v then .looks bs else .marks bs)
   |none=>none
  else match ic f all H with
   |some (v,h)=>if dr&&!r9 H h then none else some (v,.Es h)
   |none=>none
 |_=>none
def bC:Operand->Bool
 |.const _=>true
 |_=>false
def mP:Operand->Bool
 |.func _=>true
 |_=>false
def dH(E:Env)(pc:Pc)(ic yc:Ic)(dr:Bool)(ts:List AV)(H:Hp)(aP:Nat)(o:Oper):Option (AV×cC):=
 let v (r:Option AV):Option (AV×cC):=r.map fun x=>(x,.bJ [])
 let u (r:Option (List (Nat×ct))):Option (AV×cC):=r.map fun l=>(bS,.bJ l)
 let b (r:Option (AV×List (Nat×ct))):Option (AV×cC):=r.map fun(x,l)=>(x,.bJ l)
 match o.op with
 |.move x|.assign x=>v (bT ts x)
 |.pick c a b=>(match bT ts c with
  |some (.bool t)=>v (bT ts (if t then a else b))
  |_=>none)
 |.alloc t=>b ((eo E t).map fun z=>(.bI aP 0,[(aP,.cells .live z.cells)]))
 |.box _ x=>b ((bT ts x).map fun z=>(.bI aP 0,[(aP,.cells .live z.cells)]))
 |.build t ps=>(match fA E t,(E.ty t).bind (·.zero),sC ts ps.toList with
  |some pl,some z,some vs=>v ((fD pl z vs).map .agg)
  |_,_,_=>none)
 |.buildSlice t len ps=>(match E.ty t with
  |some {cD:=.slice e,..}=>(match E.ty e with
   |some ei=>(match ei.zero,sC ts ps.toList with
    |some z,some vs=>if z.length=ei.size/\0<ei.size/\len*ei.size<=16777216 then
      b ((fD (fun i=>some (i*ei.size,ei.size)) (gD z len) vs).map fun cs=>
       (.aI aP 0 len ei.size len,[(aP,.cells .live cs)]))
     else none
    |_,_=>none)
   |none=>none)
  |_=>none)
 |.load t a=>(match bT ts a with|some p=>v (dW E H t p)|none=>none)
 |.store t a x=>(match bT ts a,bT ts x with|some p,some z=>u (fe E H t p z)|_,_=>none)
 |.nilCheck x=>(match bT ts x with
  |some (.bI b off)=>v (some (.bI b off))
  |some (.cU cs off)=>v (some (.cU cs off))
  |some (.ie g off)=>v (some (.ie g off))
  |some (.func f a b)=>v (some (.func f a b))
  |some (.yield l)=>v (some (.yield l))
  |_=>none)
 |.binOp op t x y _=>(match bT ts x,bT ts y with|some a,some b=>v (cd E (bC x||bC y) op t a b)|_,_=>none)
 |.unOp op _ x=>(match bT ts x with|some a=>v (TQ op a)|none=>none)
 |.convert s d x=>(match bT ts x,E.ty s,E.ty d with
  |some (.str _),some {cD:=.string,..},some {cD:=.slice _,..}=>none
  |some x,some {cD:=.slice e,..},some {cD:=.string,..}=>(match E.ty e,gO H 1 x with
   |some {cD:=.int .u8,size:=1,..},some cs=>v ((zA cs).map .str)
   |_,_=>none)
  |some x,_,_=>v (Cr E s d x)
  |_,_,_=>none)
 |.makeInterface t x=>(match E.ty t with
  |some i=>(match i.cD with
   |.interface _=>none
   |_=>v ((bT ts x).map (.iface t)))
  |none=>none)
 |.makeFunc (.func f) first cap=>(match km ts first.toList,km ts cap.toList with
  |some a,some c=>v (some (.func f a c))
  |_,_=>none)
 |.makeMap t r=>(match E.ty t,gr ts r with
  |some {cD:=.map _ _,..},some none=>b (some (.eS aP,[(aP,.map .live [] [])]))
  |some {cD:=.map _ _,..},some (some (.int _ _))=>b (some (.eS aP,[(aP,.map .live [] [])]))
  |_,_=>none)
 |.makeSlice t l c=>(match bT ts l,bT ts c with|some x,some y=>b (fp E aP t x y)|_,_=>none)
 |.slice t x lo hi mx=>(match bT ts x,gr ts lo,gr ts hi,mx with
  |some a,some l,some h,none=>(match E.ty t with
   |some {cD:=.array ..,..}=>v (gY E H t a l h)
   |_=>v (gg E t a l h))
  |_,_,_,_=>none)
 |.fieldAddr t x f=>(match bT ts x with|some a=>v (cP E t a f)|none=>none)
 |.field t x f=>(match bT ts x with|some a=>v (CG E t a f)|none=>none)
 |.indexAddr t x i=>(match bT ts x,bT ts i with|some a,some b=>v (b9 E t a b)|_,_=>none)
 |.index t x i=>(match bT ts x,bT ts i with|some a,some b=>v (lD E t a b)|_,_=>none)
 |.lookup t x i ok=>(match bT ts x,bT ts i with|some a,some b=>v (jT E H t a b ok)|_,_=>none)
 |.mapUpdate t m k x|.insert t m k x=>(match bT ts m,bT ts k,bT ts x with
  |some a,some b,some c=>u (fU E H t a b c)
  |_,_,_=>none)
 |.sliceToArrayPointer t x=>(match E.ty t,bT ts x with
  |some {cD:=.array n _,..},some (.aI b off len _ _)=>if len<n then none else v (some (.bI b off))
  |some {cD:=.array n _,..},some (.aK cs len)=>if len<n then none else v (some (.cU cs 0))
  |_,_=>none)
 |.range t x=>(match E.ty t,bT ts x with
  |some {cD:=.string,..},some (.str z)=>b (some (.bI aP 0,[(aP,.iG z 0)]))
  |_,_=>none)
 |.next it true=>(match bT ts it with
  |some (.bI i 0)=>(match H[i]? with
   |some (.iG z pos)=>if pos<z.length then
     (let d:=Utf8.decode ⟨z.toArray⟩ pos
     b (some (.tuple [.bool true,.int .i64 pos,.int .i32 d.1],[(i,.iG z (pos+d.2))])))
    else v (some (.tuple [.bool false]))
   |_=>none)
  |_=>none)
 |.extract t i=>(match bT ts t with
  |some (.tuple vs)=>v vs[i]?
  |_=>none)
 |.call c=>(match c.callee with
  |.builtin bi=>(match km ts c.args.toList with
   |some a_=>b (bB E H aP bi c.argTypes.toList a_)
   |none=>none)
  |.value f=>(match bT ts f,km ts c.args.toList with
   |some fv,some a_=>ka E pc ic yc (dr&&mP f) H fv a_
   |_,_=>none)
  |_=>none)
 |_=>none
def bt(dst:Option Nat)(v:AV)(ts:List AV):List AV:=
 match dst with
 |some d=>ts.set d v
 |none=>ts
def bE(ops:List Oper)(ts:List AV)(o:Oper):Bool:=
 match o.guard with
 |none=>true
 |some (j,want)=>match(ops[j]?).bind (·.dst)with
  |none=>false
  |some d=>match ts[d]? with
   |some (.bool b)=>b==want
   |_=>false
def bU(E:Env)(pc:Pc)(ic yc:Ic)(dr:Bool)(ops:List Oper)(aP:Nat)(o:Oper)(ts:List AV)(H:Hp):Option (List AV×cC):=
 if bE ops ts o then
  match dH E pc ic yc dr ts H aP o with
  |some (v,e)=>some (bt o.dst v ts,e)
  |none=>none
 else some (bt o.dst bS ts,.bJ [])
def qa(E:Env)(pc:Pc)(ic yc:Ic)(ops:List Oper):List Oper->List AV->Hp->Option (List AV×Hp)
 |[],ts,H=>some (ts,H)
 |o::rest,ts,H=>match bU E pc ic yc false ops H.length o ts H with
  |some (ts',e)=>qa E pc ic yc ops rest ts' (e.app H)
  |none=>none
def ej:AV->List Nat
 |.bI b _|.aI b _ _ _ _|.eS b=>[b]
 |_=>[]
def lG(ts:List AV)(o:Oper):List Nat:=
 o.op.operands.toList.flatMap fun x=>match bT ts x with
  |some v=>ej v
  |none=>[]
def bH(E:Env)(ts:List AV)(o:Oper)(e:cC):List Nat×List Nat:=
 match iJ E o with
 |.n=>([],[])
 |_=>match e with
  |.bJ l=>(lG ts o,l.map (·.1))
  |.marks l=>(l,[])
  |.looks l=>(l,[])
  |.Es _=>([],[])
def dw:ct:=.cells .dead [bS]
def kB:Option ct->Bool
 |some (.cells .dead [.tuple []])=>true
 |_=>false
def o7(E:Env)(pc:Pc)(ic yc:Ic)(ops:List Oper):List Oper->Nat->List AV->Hp->Option (List AV×Hp×List (List Nat×List Nat))
 |[],_,ts,H=>some (ts,H,[])
 |o::rest,aP,ts,H=>if bV E o&&!kB H[aP]? then none else
  match bU E pc ic yc true ops aP o ts H with
  |some (ts',e)=>match o7 E pc ic yc ops rest (if bV E o then aP+1 else aP) ts' (e.app H)with
   |some (t,h,l)=>some (t,h,bH E ts o e::l)
   |none=>none
  |none=>none
def wk(a b:List Nat):Bool:=a.all fun x=>!b.contains x
def rE(l:List (List Nat×List Nat))(p:Nat×Nat):Bool:=
 match l[p.1]?,l[p.2]? with
 |some (r1,w1),some (r2,w2)=>wk w1 r2&&wk w1 w2&&wk r1 w2
 |_,_=>true
def xZ(E:Env)(pc:Pc)(ic yc:Ic)(id:Nat)(ops:List Oper)(ts:List AV)(H:Hp):Option (List AV×Hp):=
 match o7 E pc ic yc ops ops H.length ts (H++aKF (ops.countP (bV E)) dw)with
 |some (t,h,l)=>if(E.pairs id ops.length).all (rE l)then some (t,h)else none
 |none=>none
inductive Ex where
 |normal
 |exit (id:Nat)
 |ret
 deriving DecidableEq
def fL(H:Hp)(E:Env)(ts:List AV):List ResultVar->Option (List AV)
 |[]=>some []
 |.tmp t::rs=>(fL H E ts rs).map fun vs=>ts[t]?.getD bS::vs
 |.cell a t::rs=>match dW E H t (ts[a]?.getD bS),fL H E ts rs with
  |some v,some vs=>some (v::vs)
  |_,_=>none
def gV:List AV->AV
 |[v]=>v
 |vs=>.tuple vs
abbrev Cd:=Code->List AV->Hp->Option (Ex×List AV×Hp)
def jE(E:Env)(rec:Cd):Pc:=fun f args=>
 match E.ov f args with
 |some r=>some r
 |none=>match E.fn f with
  |some fi=>if !(fi.pure||fi.eE)then none else
   match rec fi.code (args++aKF (fi.ntmps-args.length) bS) []with
   |some (.exit _,_,_)=>none
   |some (_,ts,H)=>match fL H E ts fi.results with
    |some vs=>match bW H [gV vs]with
     |some ([v],_)=>some v
     |_=>none
    |none=>none
   |none=>none
  |none=>none
def oF(E:Env)(rec:Cd):Ic:=fun f args H=>
 match E.fn f with
 |some fi=>
  match rec fi.code (args++aKF (fi.ntmps-args.length) bS) H with
  |some (.exit _,_,_)=>none
  |some (_,ts,H')=>(fL H' E ts fi.results).map fun vs=>(gV vs,H')
  |none=>none
 |none=>none
def kQ(E:Env)(rec:Cd):Ic:=fun f args H=>
 match E.rC f args H with
 |some r=>some r
 |none=>oF E rec f args H
def HM(ts:List AV):List Nat->List AV->Option (List AV)
 |[],[]=>some ts
 |p::ps,a::a_=>HM (ts.set p a) ps a_
 |_,_=>none
def lI(rec:Cd):Ic:=fun l args H=>
 match H[l]? with
 |some (.loop .ready _ ts ps assign body)=>match HM ts ps args with
  |some ts'=>match rec assign ts' H with
   |some (.normal,t1,H1)=>match H1[l]? with
    |some (.loop .ready im oc ps2 as2 b2)=>
     match rec body t1 (H1.set l (.loop .busy im oc ps2 as2 b2))with
     |some (e,_,H2)=>match H2[l]? with
      |some (.loop _ _ Am Ae zu b3)=>match e with
       |.normal=>some (.bool true,H2.set l (.loop .ready none Am Ae zu b3))
       |.ret=>some (.bool false,H2.set l (.loop .done (some .ret) Am Ae zu b3))
       |.exit id=>some (.bool false,H2.set l (.loop .done (some (.exit id)) Am Ae zu b3))
      |_=>none
     |none=>none
    |_=>none
   |_=>none
  |none=>none
 |_=>none
def cM(E:Env)(rec:Cd):Cd:=fun c ts H=>
 match c with
 |.skip|.label _=>some (.normal,ts,H)
 |.region id ops draw=>
  (if draw then xZ E (jE E rec) (kQ E rec) (lI rec) id ops.toList ts H
   else qa E (jE E rec) (kQ E rec) (lI rec) ops.toList ops.toList ts H).map fun(t,h)=>(.normal,t,h)
 |.seq a b=>match rec a ts H with
  |some (.normal,ts',H')=>rec b ts' H'
  |r=>r
 |.cond c a b=>match bT ts c with
  |some (.bool t)=>rec (if t then a else b) ts H
  |_=>none
 |.block id body=>match rec body ts H with
  |some (.exit M7,ts',H')=>if M7=id then some (.normal,ts',H')else some (.exit M7,ts',H')
  |r=>r
 |.loop body=>match rec body ts H with
  |some (.normal,ts',H')=>rec (.loop body) ts' H'
  |r=>r
 |.exit id=>some (.exit id,ts,H)
 |.ret=>some (.ret,ts,H)
 |.rangeFunc g ps assign body=>match bT ts g with
  |some (.func f first cap)=>
   match oF E rec f (first++[.yield H.length]++cap) (H++[.loop .ready none ts ps.toList assign body])with
   |some (_,H2)=>match H2[H.length]? with
    |some (.loop st im Am Ae zu b3)=>
     if st=.busy then none else
     match im with
     |none=>some (.normal,ts,H2.set H.length (.loop .exhausted im Am Ae zu b3))
     |some c=>rec c ts (H2.set H.length (.loop .exhausted im Am Ae zu b3))
    |_=>none
   |none=>none
  |_=>none
 |_=>none
def bR(E:Env):Nat->Cd
 |0=>fun _ _ _=>none
 |n+1=>cM E (bR E n)
def call(E:Env)(n:Nat):Pc:=jE E (bR E n)
end
end Dv
namespace Dv
open Go Go.RowKit
abbrev cS:=Nat->Option (Nat×Nat)
def cg:cS:=fun _=>none
mutual
def R(ι:cS)(w:World)(L:Nat->Prop):AV->Value->Prop
 |.bool b,v=>v=.bool b
 |.int k n,v=>v=.int k n
 |.str s,v=>v=.string ⟨s.toArray⟩
 |.gQ,v=>v=.pointer none
 |.bI b off,v=>∃cb co,ι b=some (cb,co)/\v=.pointer (some ⟨cb,co+off,none⟩)
 |.cU cs off,v=>∃cb o c e f,v=.pointer (some ⟨cb,o+off,none⟩)/\w.heap[cb]?=some (.cells c e f)/\¬L cb/\iI cg w L c o cs
 |.ie g off,v=>v=.pointer (some ⟨g,off,none⟩)
 |.aH,v=>v=.slice none 0 0
 |.dx,v=>∃a cap,v=.slice (some a) 0 cap
 |.aI b off len esz kc,v=>∃cb co cap c e f,ι b=some (cb,co)/\v=.slice (some ⟨cb,co+off,none⟩) len cap/\len<=kc/\kc<=cap/\
   w.heap[cb]?=some (.cells c e f)/\co+off+cap*esz<=c.size
 |.aK cs len,v=>∃cb o cap c e f,v=.slice (some ⟨cb,o,none⟩) len cap/\len<=cap/\w.heap[cb]?=some (.cells c e f)/\¬L cb/\iI cg w L c o cs
 |.gd,v=>v=.map none
 |.eS b,v=>∃cb co,ι b=some (cb,co)/\v=.map (some cb)
 |.vM ks vs,v=>∃cb es clock,v=.map (some cb)/\w.heap[cb]?=some (.map es clock)/\¬L cb/\Rs cg w L ks (es.toList.map (·.key))/\Rs cg w L vs (es.toList.map (·.val))
 |.fQ,v=>v=.nilFunc
 |.func f first cap,v=>∃a c,v=.func (.func f) a c/\Rs ι w L first a.toList/\Rs ι w L cap c.toList
 |.nilIface,v=>v=.nilIface
 |.iface t x,v=>∃y,v=.iface t y/\R ι w L x y
 |.agg cs,v=>∃vs,v=.agg vs/\Rs ι w L cs vs.toList
 |.tuple cs,v=>∃vs,v=.tuple vs/\Rs ι w L cs vs.toList
 |.yield l,v=>∃cb co,ι l=some (cb,co)/\v=.func (.yield cb) #[] #[]
def Rs(ι:cS)(w:World)(L:Nat->Prop):List AV->List Value->Prop
 |[],vs=>vs=[]
 |x::xs,vs=>∃y ys,vs=y::ys/\R ι w L x y/\Rs ι w L xs ys
def iI(ι:cS)(w:World)(L:Nat->Prop)(c:Array Value):Nat->List AV->Prop
 |_,[]=>True
 |o,x::xs=>(∃y,c[o]?=some y/\R ι w L x y)/\iI ι w L c (o+1) xs
end
structure Ext(w:World)(L:Nat->Prop)(w':World)(L':Nat->Prop):Prop where
 size:w.heap.size<=w'.heap.size
 old:∀c,c<w.heap.size->¬L c->w'.heap[c]?=w.heap[c]?/\¬L' c
 shape:∀(c:Nat) (cs:Array Value) (e:TypeId) (f:Nat×Nat),w.heap[c]?=some (Obj.cells cs e f)->∃(Aw:Array Value) (f':Nat×Nat),w'.heap[c]?=some (Obj.cells Aw e f')/\Aw.size=cs.size
def Ext.refl(w:World)(L:Nat->Prop):Ext w L w L:=⟨aKE _,fun _ _ h=>⟨rfl,h⟩,fun _ cs _ f h=>⟨cs,f,h,rfl⟩⟩
def Ext.trans{w w' w'':World}{L L' L'':Nat->Prop}(h:Ext w L w' L')(k:Ext w' L' w'' L''):Ext w L w'' L'':=
 ⟨Nat.le_trans h.size k.size,
  fun c hc hl=>let⟨h1,h2⟩:=h.old c hc hl;let⟨k1,k2⟩:=k.old c (Nat.lt_of_lt_of_le hc h.size) h2;⟨k1.trans h1,k2⟩,
  fun c cs e f oQ=>let⟨Aw,f',h1,h2⟩:=h.shape c cs e f oQ;let⟨axO,f'',k1,k2⟩:=k.shape c Aw e f' h1;⟨axO,f'',k1,k2.trans h2⟩⟩
def eG{w:World}{c:Nat}{o:Obj}(h:w.heap[c]?=some o):c<w.heap.size:=by
 rcases Nat.lt_or_ge c w.heap.size with h'|h'
 ·exact h'
 ·simp[Array.getElem?_eq_none h']at h
def cS.le(ι ι':cS):Prop:=∀b p,ι b=some p->ι' b=some p
def cS.le_refl(ι:cS):ι.le ι:=fun _ _ h=>h
def cS.le_trans{a b c:cS}(h:a.le b)(k:b.le c):a.le c:=fun x p hx=>k x p (h x p hx)
def qH(ι:cS):cg.le ι:=fun _ _ h=>by cases h
def Ext.keep{w w':World}{L L':Nat->Prop}(h:Ext w L w' L'){c:Nat}{o:Obj}(hc:w.heap[c]?=some o)(hl:¬L c):w'.heap[c]?=some o/\¬L' c:=by
 have:=h.old c (eG hc) hl
 exact⟨this.1.trans hc,this.2⟩
mutual
def R.ext{w w':World}{L L':Nat->Prop}(he:Ext w L w' L'):∀(av:AV) (ι ι':cS) (v:Value),ι.le ι'->R ι w L av v->R ι' w' L' av v
 |.bool _,_,_,_,_,h=>by simpa[R]using h
 |.int _ _,_,_,_,_,h=>by simpa[R]using h
 |.str _,_,_,_,_,h=>by simpa[R]using h
 |.gQ,_,_,_,_,h=>by simpa[R]using h
 |.bI _ _,_,_,_,hi,h=>by
  simp only[R]at h⊢;obtain⟨cb,co,h1,h2⟩:=h;exact⟨cb,co,hi _ _ h1,h2⟩
 |.cU cs _,_,_,_,_,h=>by
  simp only[R]at h⊢;obtain⟨cb,o,c,e,f,h1,h2,h3,h4⟩:=h
  have:=he.keep h2 h3
  exact⟨cb,o,c,e,f,h1,this.1,this.2,iI.ext he cs cg cg c o (cS.le_refl _) h4⟩
 |.ie _ _,_,_,_,_,h=>by simpa[R]using h
 |.aH,_,_,_,_,h=>by simpa[R]using h
 |.dx,_,_,_,_,h=>by simpa[R]using h
 |.aI _ _ _ _ _,_,_,_,hi,h=>by
  simp only[R]at h⊢;obtain⟨cb,co,cap,c,e,f,h1,h2,h3,h4,h5,h6⟩:=h;obtain⟨c',f',g1,g2⟩:=he.shape cb c e f h5;exact⟨cb,co,cap,c',e,f',hi _ _ h1,h2,h3,h4,g1,by omega⟩
 |.aK cs _,_,_,_,_,h=>by
  simp only[R]at h⊢;obtain⟨cb,o,cap,c,e,f,h1,h2,h3,h4,h5⟩:=h
  have:=he.keep h3 h4
  exact⟨cb,o,cap,c,e,f,h1,h2,this.1,this.2,iI.ext he cs cg cg c o (cS.le_refl _) h5⟩
 |.gd,_,_,_,_,h=>by simpa[R]using h
 |.eS _,_,_,_,hi,h=>by
  simp only[R]at h⊢;obtain⟨cb,co,h1,h2⟩:=h;exact⟨cb,co,hi _ _ h1,h2⟩
 |.vM ks vs,_,_,_,_,h=>by
  simp only[R]at h⊢;obtain⟨cb,es,clock,h1,h2,h3,h4,h5⟩:=h
  have:=he.keep h2 h3
  exact⟨cb,es,clock,h1,this.1,this.2,Rs.ext he ks cg cg _ (cS.le_refl _) h4,Rs.ext he vs cg cg _ (cS.le_refl _) h5⟩
 |.fQ,_,_,_,_,h=>by simpa[R]using h
 |.func _ a b,ι,ι',_,hi,h=>by
  simp only[R]at h⊢;obtain⟨x,y,h1,h2,h3⟩:=h;exact⟨x,y,h1,Rs.ext he a ι ι' _ hi h2,Rs.ext he b ι ι' _ hi h3⟩
 |.nilIface,_,_,_,_,h=>by simpa[R]using h
 |.iface _ x,ι,ι',_,hi,h=>by
  simp only[R]at h⊢;obtain⟨y,h1,h2⟩:=h;exact⟨y,h1,R.ext he x ι ι' y hi h2⟩
 |.agg cs,ι,ι',_,hi,h=>by
  simp only[R]at h⊢;obtain⟨y,h1,h2⟩:=h;exact⟨y,h1,Rs.ext he cs ι ι' _ hi h2⟩
 |.tuple cs,ι,ι',_,hi,h=>by
  simp only[R]at h⊢;obtain⟨y,h1,h2⟩:=h;exact⟨y,h1,Rs.ext he cs ι ι' _ hi h2⟩
 |.yield _,_,_,_,hi,h=>by
  simp only[R]at h⊢;obtain⟨cb,co,h1,h2⟩:=h;exact⟨cb,co,hi _ _ h1,h2⟩
def Rs.ext{w w':World}{L L':Nat->Prop}(he:Ext w L w' L'):∀(xs:List AV) (ι ι':cS) (vs:List Value),ι.le ι'->Rs ι w L xs vs->Rs ι' w' L' xs vs
 |[],_,_,_,_,h=>by simpa[Rs]using h
 |x::xs,ι,ι',_,hi,h=>by
  simp only[Rs]at h⊢;obtain⟨y,ys,h1,h2,h3⟩:=h;exact⟨y,ys,h1,R.ext he x ι ι' y hi h2,Rs.ext he xs ι ι' ys hi h3⟩
def iI.ext{w w':World}{L L':Nat->Prop}(he:Ext w L w' L'):∀(xs:List AV) (ι ι':cS) (c:Array Value) (o:Nat),ι.le ι'->iI ι w L c o xs->iI ι' w' L' c o xs
 |[],_,_,_,_,_,_=>by simp[iI]
 |x::xs,ι,ι',c,o,hi,h=>by
  simp only[iI]at h⊢;obtain⟨⟨y,h1,h2⟩,h3⟩:=h;exact⟨⟨y,h1,R.ext he x ι ι' y hi h2⟩,iI.ext he xs ι ι' c (o+1) hi h3⟩
end
section
variable{ι:cS}{w:World}{L:Nat->Prop}
def Rs.length:∀{xs:List AV} {vs:List Value},Rs ι w L xs vs->vs.length=xs.length
 |[],_,h=>by simp only[Rs]at h;simp[h]
 |_::xs,_,h=>by
  simp only[Rs]at h;obtain⟨y,ys,rfl,_,h3⟩:=h;simp[Rs.length h3]
def Rs.get:∀{xs:List AV} {vs:List Value} (_:Rs ι w L xs vs) (i:Nat) (x:AV),xs[i]?=some x->∃v,vs[i]?=some v/\R ι w L x v
 |[],_,_,i,x,hx=>by simp at hx
 |a::xs,_,h,i,x,hx=>by
  simp only[Rs]at h;obtain⟨y,ys,rfl,h2,h3⟩:=h;cases i with
  |zero=>simp at hx;subst hx;exact⟨y,by simp,h2⟩
  |succ i=>simp at hx;simpa using Rs.get h3 i x hx
def Rs.gR:∀{xs:List AV} {vs:List Value},vs.length=xs.length->(∀(i:Nat) (x:AV),xs[i]?=some x->∃v,vs[i]?=some v/\R ι w L x v)->Rs ι w L xs vs
 |[],vs,hl,_=>by simp only[Rs];simpa using hl
 |a::xs,[],hl,_=>by simp at hl
 |a::xs,v::vs,hl,h=>by
  simp only[Rs];refine⟨v,vs,rfl,?_,Rs.gR (by simpa using hl) fun i x hx=>?_⟩
  ·obtain⟨u,h1,h2⟩:=h 0 a (by simp);simp at h1;subst h1;exact h2
  ·simpa using h (i+1) x (by simpa using hx)
def Rs.append{xs ys:List AV}{us vs:List Value}(h:Rs ι w L xs us)(k:Rs ι w L ys vs):Rs ι w L (xs++ys) (us++vs):=by
 have l1:=h.length;refine Rs.gR (by simp[l1,k.length]) fun i x hx=>?_
 rw[aKH]at hx⊢;by_cases hi:i<xs.length
 ·rw[if_pos hi]at hx;rw[if_pos (by omega)];exact h.get i x hx
 ·rw[if_neg hi]at hx;rw[if_neg (by omega),l1];exact k.get _ x hx
def Rs.take{xs:List AV}{vs:List Value}(h:Rs ι w L xs vs)(n:Nat):Rs ι w L (xs.take n) (vs.take n):=by
 refine Rs.gR (by simp[h.length]) fun i x hx=>?_
 rw[aKI]at hx⊢;split at hx
 ·rename_i hi;rw[if_pos hi];exact h.get i x hx
 ·cases hx
def Rs.drop{xs:List AV}{vs:List Value}(h:Rs ι w L xs vs)(n:Nat):Rs ι w L (xs.drop n) (vs.drop n):=by
 refine Rs.gR (by simp[h.length]) fun i x hx=>?_
 rw[aKJ]at hx⊢;exact h.get _ x hx
def Rs.set{xs:List AV}{vs:List Value}(h:Rs ι w L xs vs)(n:Nat){x:AV}{v:Value}(hx:R ι w L x v):Rs ι w L (xs.set n x) (vs.set n v):=by
 refine Rs.gR (by simp[h.length]) fun i y hy=>?_
 rw[aKA]at hy⊢;split at hy
 ·rename_i hni;subst hni;split at hy
  ·rename_i ek;simp at hy;subst hy
   exact⟨v,by simp[h.length,ek],hx⟩
  ·cases hy
 ·rename_i hni;rw[if_neg hni];exact h.get i y hy
def Rs.getD{xs:List AV}{vs:List Value}(h:Rs ι w L xs vs)(i:Nat):R ι w L (xs[i]?.getD bS) (vs[i]?.getD undef):=by
 cases hx:xs[i]? with
 |some x=>obtain⟨v,h1,h2⟩:=h.get i x hx;simpa[h1]using h2
 |none=>
  have:vs[i]?=none:=by rw[List.getElem?_eq_none_iff]at hx⊢;rw[h.length];exact hx
  rw[this];simp only[Option.getD_none,bS,R];exact⟨#[],rfl,by simp[Rs]⟩
def iI.get{c:Array Value}:∀{xs:List AV} {o:Nat} (_:iI ι w L c o xs) (i:Nat) (x:AV),xs[i]?=some x->∃v,c[o+i]?=some v/\R ι w L x v
 |[],_,_,i,x,hx=>by simp at hx
 |a::xs,o,h,i,x,hx=>by
  simp only[iI]at h;obtain⟨⟨y,h1,h2⟩,h3⟩:=h;cases i with
  |zero=>simp at hx;subst hx;exact⟨y,by simpa using h1,h2⟩
  |succ i=>
   simp at hx;obtain⟨v,g1,g2⟩:=iI.get h3 i x hx;exact⟨v,by rw[<-g1];congr 1;omega,g2⟩
def iI.gR{c:Array Value}:∀{xs:List AV} {o:Nat},(∀(i:Nat) (x:AV),xs[i]?=some x->∃v,c[o+i]?=some v/\R ι w L x v)->iI ι w L c o xs
 |[],_,_=>by simp[iI]
 |a::xs,o,h=>by
  simp only[iI];refine⟨by simpa using h 0 a (by simp),iI.gR fun i x hx=>?_⟩;obtain⟨v,h1,h2⟩:=h (i+1) x (by simpa using hx);exact⟨v,by rw[<-h1];congr 1;omega,h2⟩
def iI.drop{c:Array Value}{xs:List AV}{o:Nat}(h:iI ι w L c o xs)(n:Nat):iI ι w L c (o+n) (xs.drop n):=
 iI.gR fun i x hx=>by
  rw[aKJ]at hx;rw[show o+n+i=o+(n+i)from by omega];exact h.get _ x hx
def iI.take{c:Array Value}{xs:List AV}{o:Nat}(h:iI ι w L c o xs)(n:Nat):iI ι w L c o (xs.take n):=
 iI.gR fun i x hx=>by
  rw[aKI]at hx;split at hx
  ·exact h.get _ x hx
  ·cases hx
def iI.size{c:Array Value}{xs:List AV}{o:Nat}(h:iI ι w L c o xs)(eQ:xs≠[]):o+xs.length<=c.size:=by
 have hl:0<xs.length:=List.length_pos_iff.2 eQ;obtain⟨v,h1,_⟩:=h.get (xs.length-1) _ (List.getElem?_eq_getElem (by omega))
 have:=(Array.getElem?_eq_some_iff.1 h1).1
 omega
def iI.list{c:Array Value}{xs:List AV}{o:Nat}(h:iI ι w L c o xs):Rs ι w L xs (c.extract o (o+xs.length)).toList:=by
 by_cases eQ:xs=[]
 ·subst eQ;simp[Rs]
 have hs:=h.size eQ;refine Rs.gR (by simp;omega) fun i x hx=>?_
 obtain⟨v,h1,h2⟩:=h.get i x hx;have hi:i<xs.length:=(aKB.1 hx).1;refine⟨v,?_,h2⟩;rw[Array.getElem?_toList,Array.getElem?_extract];rw[if_pos (by omega)];exact h1
def Rs.at{c:Array Value}{xs:List AV}{vs:List Value}(h:Rs ι w L xs vs){o:Nat}(hc:∀(i:Nat) (v:Value),vs[i]?=some v->c[o+i]?=some v):iI ι w L c o xs:=
 iI.gR fun i x hx=>let⟨v,h1,h2⟩:=h.get i x hx;⟨v,hc i v h1,h2⟩
end
structure anG(E:Env)(P:Program)(t:Nat)(i:sO):Prop where
 cD:P.underlying t=some i.cD
 agg:i.isAgg=(match i.cD with|.struct _|.array .. =>true|_=>false)
 info:∃ti,P.info? t=some ti/\ti.size=i.size/\ti.bytes=i.bytes/\
  (∀cs,i.zero=some cs->∃z,ti.zero=some z/\eZ (Bd 19) z.cells.toList=some cs/\cs.length=i.size/\
   (i.isAgg=true->∃a,z=.agg a)/\(i.isAgg=false->z.cells=#[z]))
 one:i.isAgg=false->i.size=1
 eq:i.dQ=true->P.stoodInHeld t=false/\P.eqGuardType P.depth t=false
structure Valid(E:Env)(P:Program):Prop where
 ty:∀t i,E.ty t=some i->anG E P t i
 fn:∀f fi,E.fn f=some fi->∃fn,P.funcs[f]?=some fn/\fn.body=some fi.code/\fn.ntmps=fi.ntmps/\fn.results.toList=fi.results/\
  fn.name≠ "runtime.NumGoroutine"/\codeOk E fi.code=true
 mixed:P.follows .mixedOrders=true
def bg{E:Env}{P:Program}(V:Valid E P){t:Nat}{i:sO}(h:E.ty t=some i)(w:World):(underlying t).run P w=.ok i.cD w:=
 run_underlying (V.ty t i h).cD w
def cF{E:Env}{P:Program}(V:Valid E P){t:Nat}{i:sO}(h:E.ty t=some i)(w:World):(Go.sizeOf t).run P w=.ok i.size w:=by obtain⟨ti,h1,h2,_⟩:=(V.ty t i h).info;simp[Go.sizeOf,typeInfo,h1,h2]
def DN{E:Env}{P:Program}(V:Valid E P){t:Nat}{i:sO}(h:E.ty t=some i)(w:World):(isAgg t).run P w=.ok i.isAgg w:=by
 have hu:=bg V h w;have ha:=(V.ty t i h).agg;unfold isAgg;simp only[Sem.run_bind,hu,Result.andThen_ok,ha];cases i.cD<;>rfl
mutual
def L2{ι:cS}{w:World}{L:Nat->Prop}:∀(n:Nat) (v:Value) (av:AV),Bd n v=some av->R ι w L av v
 |0,_,_,h=>by simp[Bd]at h
 |n+1,v,av,h=>by
  unfold Bd at h;split at h
  case h_1=>cases h;simp[R]
  case h_2=>cases h;simp[R]
  case h_3 s=>cases h;simp[R]
  case h_4=>cases h;simp[R]
  case h_5=>cases h;simp[R]
  case h_6=>cases h;simp[R]
  case h_7=>cases h;simp[R]
  case h_8=>cases h;simp[R]
  case h_9 cs=>
   rw[aKD]at h;obtain⟨xs,h1,rfl⟩:=h;simp only[R];exact⟨cs,rfl,uq n cs.toList xs h1⟩
  case h_10 cs=>
   rw[aKD]at h;obtain⟨xs,h1,rfl⟩:=h;simp only[R];exact⟨cs,rfl,uq n cs.toList xs h1⟩
  case h_11 t v=>
   rw[aKD]at h;obtain⟨x,h1,rfl⟩:=h;simp only[R];exact⟨v,rfl,L2 n v x h1⟩
  case h_12=>cases h
def uq{ι:cS}{w:World}{L:Nat->Prop}:∀(n:Nat) (vs:List Value) (xs:List AV),eZ (Bd n) vs=some xs->Rs ι w L xs vs
 |_,[],_,h=>by simp[eZ]at h;subst h;simp[Rs]
 |n,v::vs,xs,h=>by
  unfold eZ at h;cases h1:Bd n v with
  |none=>simp[h1]at h
  |some x=>
   simp only[h1]at h;cases h2:eZ (Bd n) vs with
   |none=>simp[h2]at h
   |some ys=>
    simp only[h2,Option.some.injEq]at h;subst h;simp only[Rs];exact⟨v,vs,rfl,L2 n v x h1,uq n vs ys h2⟩
end
def Ac{ι:cS}{w:World}{L:Nat->Prop}{x:AV}{v:Value}(h:R ι w L x v)(ho:cL x=true):v.oneCell'=true:=by
 cases x<;>simp only[cL,Bool.false_eq_true]at ho<;>simp only[R]at h
 case bool=>subst h;rfl
 case int=>subst h;rfl
 case str=>subst h;rfl
 case gQ=>subst h;rfl
 case bI=>obtain⟨_,_,_,rfl⟩:=h;rfl
 case cU=>obtain⟨_,_,_,_,_,rfl,_⟩:=h;rfl
 case ie=>subst h;rfl
 case aH=>subst h;rfl
 case dx=>obtain⟨_,_,rfl⟩:=h;rfl
 case aI=>obtain⟨_,_,_,_,_,_,_,rfl,_⟩:=h;rfl
 case aK=>obtain⟨_,_,_,_,_,_,rfl,_⟩:=h;rfl
 case gd=>subst h;rfl
 case eS=>obtain⟨_,_,_,rfl⟩:=h;rfl
 case vM=>obtain⟨_,_,_,rfl,_⟩:=h;rfl
 case fQ=>subst h;rfl
 case func=>obtain⟨_,_,rfl,_⟩:=h;rfl
 case nilIface=>subst h;rfl
 case iface=>obtain⟨_,rfl,_⟩:=h;rfl
 case yield=>obtain⟨_,_,_,rfl⟩:=h;rfl
def R.cells{ι:cS}{w:World}{L:Nat->Prop}{x:AV}{v:Value}(h:R ι w L x v):Rs ι w L x.cells v.cells.toList:=by
 cases x
 case agg cs=>simp only[R]at h;obtain⟨vs,rfl,h2⟩:=h;exact h2
 all_goals
  have h0:=h;simp only[R]at h;simp only[AV.cells,Rs];refine⟨v,[],?_,h0,rfl⟩
 case bool=>subst h;rfl
 case int=>subst h;rfl
 case str=>subst h;rfl
 case gQ=>subst h;rfl
 case bI=>obtain⟨_,_,_,rfl⟩:=h;rfl
 case cU=>obtain⟨_,_,_,_,_,rfl,_⟩:=h;rfl
 case ie=>subst h;rfl
 case aH=>subst h;rfl
 case dx=>obtain⟨_,_,rfl⟩:=h;rfl
 case aI=>obtain⟨_,_,_,_,_,_,_,rfl,_⟩:=h;rfl
 case aK=>obtain⟨_,_,_,_,_,_,rfl,_⟩:=h;rfl
 case gd=>subst h;rfl
 case eS=>obtain⟨_,_,_,rfl⟩:=h;rfl
 case vM=>obtain⟨_,_,_,rfl,_⟩:=h;rfl
 case fQ=>subst h;rfl
 case func=>obtain⟨_,_,rfl,_⟩:=h;rfl
 case nilIface=>subst h;rfl
 case iface=>obtain⟨_,rfl,_⟩:=h;rfl
 case tuple=>obtain⟨_,rfl,_⟩:=h;rfl
 case yield=>obtain⟨_,_,_,rfl⟩:=h;rfl
def ct.st:ct->oe
 |.cells st _=>st
 |.map st _ _=>st
 |.iG .. =>.live
 |.loop .. =>.live
def Live(Lo:Nat->Prop)(ι:cS)(H:Hp)(c:Nat):Prop:=Lo c∨∃b dI co,H[b]?=some dI/\dI.st=.live/\ι b=some (c,co)
def T6(es:Array MapEntry)(clock:Nat):Prop:=(∀x∈es.toList,x.born<clock)/\(es.toList.map (·.born)).Nodup
def fZ(ι:cS)(w:World)(L:Nat->Prop)(co:Nat):ct->Obj->Prop
 |.cells st cs,o=>∃c e f,o=.cells c e f/\iI ι w L c co cs/\(st=.live->∀k,k<=c.size->¬(f.1<=k/\k<f.2))
 |.map st ks vs,o=>∃es clock,o=.map es clock/\Rs ι w L ks (es.toList.map (·.key))/\Rs ι w L vs (es.toList.map (·.val))/\(st=.live->T6 es clock)
 |.iG s pos,o=>co=0/\o=.stringIter ⟨s.toArray⟩ pos
 |.loop st im ts ps a_ bd,o=>∃l:Loop,o=.loop l/\l.state=st/\l.pending=im/\Rs ι w L ts l.tmps.toList/\l.params.toList=ps/\l.assign=a_/\l.body=bd
def fZ.ext{w w':World}{L L':Nat->Prop}(he:Ext w L w' L'){ι ι':cS}(hi:ι.le ι'){co:Nat}{dI:ct}{o:Obj}(h:fZ ι w L co dI o):fZ ι' w' L' co dI o:=by
 cases dI<;>simp only[fZ]at h⊢
 case cells=>obtain⟨c,e,f,h1,h2,h3⟩:=h;exact⟨c,e,f,h1,iI.ext he _ _ _ _ _ hi h2,h3⟩
 case map=>obtain⟨es,k,h1,h2,h3,h4⟩:=h;exact⟨es,k,h1,Rs.ext he _ _ _ _ hi h2,Rs.ext he _ _ _ _ hi h3,h4⟩
 case iG=>exact h
 case loop=>obtain⟨l,h1,h2,h3,h4,h5⟩:=h;exact⟨l,h1,h2,h3,Rs.ext he _ _ _ _ hi h4,h5⟩
def ct.pT(E:Env):ct->Prop
 |.loop _ p _ _ a_ bd=>codeOk E a_=true/\codeOk E bd=true/\flat a_=true/\flat bd=true/\∀c,p=some c->codeOk E c=true
 |_=>True
structure fR(E:Env)(Lo:Nat->Prop)(w0:World)(ι:cS)(H:Hp)(w:World):Prop where
 below:Below w0.heap.size w0 w
 lo:∀c,Lo c->c<w0.heap.size
 Ih:∀b p,ι b=some p->b<H.length/\p.1<w.heap.size
 obj:∀(b:Nat) (dI:ct),H[b]?=some dI->dI.st≠ .dead->∃cb co o,ι b=some (cb,co)/\w.heap[cb]?=some o/\fZ ι w (Live Lo ι H) co dI o/\
  (dI.st=.live->w0.heap.size<=cb)/\(dI.st=.ro->¬Live Lo ι H cb)
 inj:∀(b b':Nat) (dI blk':ct) (c co co':Nat),H[b]?=some dI->dI.st=.live->H[b']?=some blk'->blk'.st=.live->ι b=some (c,co)->ι b'=some (c,co')->b=b'
 glob:∀g cs,E.glob g=some cs->∃c e f,w.heap[g]?=some (.cells c e f)/\¬Live Lo ι H g/\iI cg w (Live Lo ι H) c 0 cs/\c.size=cs.length
 pT:∀(b:Nat) (dI:ct),H[b]?=some dI->dI.st=.live->dI.pT E
 res:∀b p,ι b=some p->H[b]?≠some dw
section
variable{E:Env}{Lo:Nat->Prop}{w0:World}{ι:cS}{H:Hp}{w:World}
def mD(ι:cS)(H:Hp)(aP:Nat):Prop:=ι aP=none/\(aP=H.length∨H[aP]?=some dw)
def cS.put(ι:cS)(b:Nat)(p:Nat×Nat):cS:=fun x=>if x=b then some p else ι x
def cS.wN{b:Nat}{p:Nat×Nat}(h:ι b=none):ι.le (ι.put b p):=fun x q hx=>by
 unfold cS.put
 split
 ·rename_i he;subst he;rw[h]at hx;cases hx
 ·exact hx
def ye(h:fR E Lo w0 ι H w):mD ι H H.length:=
 ⟨by cases hi:ι H.length with
   |none=>rfl
   |some p=>exact absurd (h.Ih _ _ hi).1 (Nat.lt_irrefl _),.inl rfl⟩
def WV(h:fR E Lo w0 ι H w){aP:Nat}(hn:H[aP]?=some dw):mD ι H aP:=
 ⟨by cases hi:ι aP with
   |none=>rfl
   |some p=>exact absurd hn (h.res _ _ hi),.inr hn⟩
def mV{aP:Nat}{dI:ct}(hf:aP<=H.length)(b:Nat):(cJ H aP dI)[b]?=if b=aP then some dI else H[b]?:=by
 unfold cJ
 split
 ·rename_i h;rw[aKA];by_cases hb:b=aP
  ·subst hb;simp[h]
  ·rw[if_neg (fun e=>hb e.symm),if_neg hb]
 ·rename_i h
  have:aP=H.length:=by omega
  subst this;by_cases hb:b=H.length
  ·subst hb;simp
  ·rw[if_neg hb,aKH]
   split
   ·rfl
   ·rename_i h2;rw[aKG (by simp;omega),aKG (by omega)]
def KX{aP:Nat}{dI:ct}(hf:aP<=H.length):H.length<=(cJ H aP dI).length/\aP<(cJ H aP dI).length:=by
 unfold cJ
 split
 ·simp;omega
 ·simp;omega
def mD.le{aP:Nat}(h:mD ι H aP):aP<=H.length:=by
 rcases h.2 with rfl|h2
 ·exact aKE _
 ·exact Nat.le_of_lt (aKB.1 h2).1
def Df{aP cb co:Nat}{dI:ct}(hf:mD ι H aP)(hl:dI.st=.live)(c:Nat):
  Live Lo (ι.put aP (cb,co)) (cJ H aP dI) c↔Live Lo ι H c∨c=cb:=by
 unfold Live;constructor
 ·rintro(h|⟨b,bk,x,h1,h2,h3⟩)
  ·exact .inl (.inl h)
  ·rw[mV hf.le]at h1;unfold cS.put at h3;by_cases hb:b=aP
   ·rw[if_pos hb]at h3;cases h3;exact .inr rfl
   ·rw[if_neg hb]at h1 h3;exact .inl (.inr ⟨b,bk,x,h1,h2,h3⟩)
 ·rintro((h|⟨b,bk,x,h1,h2,h3⟩)|h)
  ·exact .inl h
  ·have hb:b≠aP:=fun e=>by subst e;rw[hf.1]at h3;cases h3
   exact .inr ⟨b,bk,x,by rw[mV hf.le,if_neg hb];exact h1,h2,by unfold cS.put;rw[if_neg hb];exact h3⟩
  ·subst h;exact .inr ⟨aP,dI,co,by rw[mV hf.le,if_pos rfl],hl,by unfold cS.put;rw[if_pos rfl]⟩
def uC(h:fR E Lo w0 ι H w){aP:Nat}{dI:ct}(hf:mD ι H aP)(hl:dI.st=.live)(o:Obj){w1:World}(hw:w1.heap=w.heap):
  Ext w (Live Lo ι H) (w1.alloc o) (Live Lo (ι.put aP (w.heap.size,0)) (cJ H aP dI)):=by
 refine⟨by simp[World.alloc,hw],fun c hc Qi=>⟨?_,fun oU=>?_⟩,fun c cs e f oQ=>⟨cs,f,?_,rfl⟩⟩
 ·simp only[World.alloc,hw];rw[aKC,if_neg (by omega)]
 ·rcases(Df (co:=0) hf hl c).1 oU with h'|h'
  ·exact Qi h'
  ·omega
 ·have:=eG oQ
  simp only[World.alloc,hw];rw[aKC,if_neg (by omega)];exact oQ
def fR.alloc(h:fR E Lo w0 ι H w){aP:Nat}{dI:ct}(hf:mD ι H aP)(hl:dI.st=.live){o:Obj}{w1:World}(hw:w1.heap=w.heap)
  (hos:w1.os=w.os) (EM:w1.tape=w.tape) (zP:w1.output=w.output)
  (ho:fZ (ι.put aP (w.heap.size,0)) (w1.alloc o) (Live Lo (ι.put aP (w.heap.size,0)) (cJ H aP dI)) 0 dI o) (CZ:dI.pT E:=by trivial):
  fR E Lo w0 (ι.put aP (w.heap.size,0)) (cJ H aP dI) (w1.alloc o):=by
 have hx:=uC h hf hl o hw;have hle:=cS.wN (p:=(w.heap.size,0)) hf.1;have Il:=h.below.size;refine⟨?_,h.lo,?_,?_,?_,?_,?_,?_⟩
 ·refine h.below.trans ⟨hos,EM,zP,by simp[World.alloc,hw],fun k hk=>?_⟩;show(w1.heap.push o)[k]?=_
  rw[hw,aKC,if_neg (by omega)]
 ·intro b p hp;unfold cS.put at hp;have vR:=KX (dI:=dI) hf.le;split at hp
  ·rename_i e;subst e;cases hp;exact⟨vR.2,by simp[World.alloc,hw]⟩
  ·have:=h.Ih _ _ hp;exact⟨by omega,by simp[World.alloc,hw];omega⟩
 ·intro b bk hb hd;rw[mV hf.le]at hb;by_cases e:b=aP
  ·rw[if_pos e]at hb;cases hb;subst e
   refine⟨w.heap.size,0,o,by simp[cS.put],?_,ho,fun _=>Il,fun hr=>by rw[hl]at hr;cases hr⟩;simp[World.alloc,hw]
  ·rw[if_neg e]at hb;obtain⟨cb,co,ob,h1,h2,h3,h4,h5⟩:=h.obj b bk hb hd;have ek:=eG h2;refine⟨cb,co,ob,hle _ _ h1,?_,h3.ext hx hle,h4,fun hr oU=>?_⟩
   ·show(w1.heap.push o)[cb]?=_
    rw[hw,aKC,if_neg (by omega)];exact h2
   ·rcases(Df (co:=0) hf hl cb).1 oU with h'|h'
    ·exact h5 hr h'
    ·omega
 ·intro b b' bk U9 c co co' hb hs Sd xj hi sw;rw[mV hf.le]at hb Sd;unfold cS.put at hi sw;by_cases e:b=aP
  ·by_cases e':b'=aP
   ·rw[e,e']
   ·rw[if_pos e]at hi;rw[if_neg e']at sw
    cases hi
    have:=(h.Ih _ _ sw).2
    omega
  ·by_cases e':b'=aP
   ·rw[if_pos e']at sw;rw[if_neg e]at hi
    cases sw
    have:=(h.Ih _ _ hi).2
    omega
   ·rw[if_neg e]at hb hi;rw[if_neg e']at Sd sw
    exact h.inj b b' bk U9 c co co' hb hs Sd xj hi sw
 ·intro g cs hg;obtain⟨c,e,f,h1,h2,h3,hz⟩:=h.glob g cs hg
  have:=hx.keep h1 h2
  exact⟨c,e,f,this.1,this.2,iI.ext hx _ _ _ _ _ (cS.le_refl _) h3,hz⟩
 ·intro b bk hb hs;rw[mV hf.le]at hb;split at hb
  ·cases hb;exact CZ
  ·exact h.pT b bk hb hs
 ·intro b p hp q;rw[mV hf.le]at q;unfold cS.put at hp;by_cases e:b=aP
  ·rw[if_pos e]at q;cases q;cases hl
  ·rw[if_neg e]at q hp;exact h.res b p hp q
structure El(w w':World)(cb:Nat)(o':Obj):Prop where
 os:w'.os=w.os
 tape:w'.tape=w.tape
 output:w'.output=w.output
 size:w'.heap.size=w.heap.size
 here:w'.heap[cb]?=some o'
 there:∀c,c≠cb->w'.heap[c]?=w.heap[c]?
def jO(o o':Obj):Prop:=∀cs e f,o=.cells cs e f->∃Aw f',o'=Obj.cells Aw e f'/\Aw.size=cs.size
def El.below{w':World}{cb:Nat}{o':Obj}(h:El w w' cb o'){B:Nat}(hb:B<=cb):Below B w w':=
 ⟨h.os,h.tape,h.output,Nat.le_of_eq h.size.symm,fun k hk=>h.there k (by omega)⟩
def El.ext{w':World}{cb:Nat}{o o':Obj}(h:El w w' cb o'){L L':Nat->Prop}(ho:w.heap[cb]?=some o)(hs:jO o o')(hl:L cb)(hL:∀c,L' c->L c):
  Ext w L w' L':=
 ⟨Nat.le_of_eq h.size.symm,fun c hc hn=>⟨h.there c (fun e=>hn (e▸hl)),fun h'=>hn (hL c h')⟩,fun c cs e f oQ=>by
  by_cases hc:c=cb
  ·subst hc;rw[ho]at oQ;cases oQ
   obtain⟨Aw,f',h1,h2⟩:=hs cs e f rfl;exact⟨Aw,f',by rw[h.here,h1],h2⟩
  ·exact⟨cs,f,by rw[h.there c hc];exact oQ,rfl⟩⟩
def YU{b:Nat}{dI blk':ct}(hb:H[b]?=some dI)(hs:blk'.st=dI.st)(c:Nat):Live Lo ι (H.set b blk') c↔Live Lo ι H c:=by
 have ek:=(aKB.1 hb).1;unfold Live;constructor
 ·rintro(h|⟨x,bk,co,h1,h2,h3⟩)
  ·exact .inl h
  ·rw[aKA]at h1;by_cases e:b=x
   ·subst e;rw[if_pos rfl,if_pos ek]at h1;cases h1
    exact .inr ⟨b,dI,co,hb,hs▸h2,h3⟩
   ·rw[if_neg e]at h1;exact .inr ⟨x,bk,co,h1,h2,h3⟩
 ·rintro(h|⟨x,bk,co,h1,h2,h3⟩)
  ·exact .inl h
  ·by_cases e:b=x
   ·subst e;rw[hb]at h1;cases h1
    exact .inr ⟨b,blk',co,by rw[aKA,if_pos rfl,if_pos ek],by rw[hs];exact h2,h3⟩
   ·exact .inr ⟨x,bk,co,by rw[aKA,if_neg e];exact h1,h2,h3⟩
def Live.congr{Lo:Nat->Prop}{ι ι':cS}{H H':Hp}(h:∀c,Live Lo ι H c↔Live Lo ι' H' c):Live Lo ι H=Live Lo ι' H':=funext fun c=>propext (h c)
def fR.update(h:fR E Lo w0 ι H w){b cb co:Nat}{dI blk':ct}{o o':Obj}{w':World}(hb:H[b]?=some dI)(hl:dI.st=.live)(oU:blk'.st=.live)
  (hi:ι b=some (cb,co)) (ho:w.heap[cb]?=some o) (r8:jO o o') (hw:El w w' cb o')
  (hr:fZ ι w' (Live Lo ι H) co blk' o') (CZ:blk'.pT E:=by trivial):fR E Lo w0 ι (H.set b blk') w'/\Ext w (Live Lo ι H) w' (Live Lo ι (H.set b blk')):=by
 have ek:=(aKB.1 hb).1;have hL:Live Lo ι (H.set b blk')=Live Lo ι H:=Live.congr (YU hb (oU.trans hl.symm));have nK:Live Lo ι H cb:=.inr ⟨b,dI,co,hb,hl,hi⟩;have hx:Ext w (Live Lo ι H) w' (Live Lo ι H):=hw.ext ho r8 nK (fun _ h=>h);obtain⟨D8,co',o1,g1,_,_,g4,_⟩:=h.obj b dI hb (by rw[hl];simp);rw[hi]at g1;cases g1
 refine⟨⟨h.below.trans (hw.below (g4 hl)),h.lo,?_,?_,?_,?_,?_,?_⟩,by rw[hL];exact hx⟩
 ·intro x p hp
  have:=h.Ih x p hp
  exact⟨by simpa using this.1,by rw[hw.size];exact this.2⟩
 ·intro x bk tG hd;rw[hL];rw[aKA]at tG;by_cases e:b=x
  ·subst e;rw[if_pos rfl,if_pos ek]at tG;cases tG
   exact⟨cb,co,o',hi,hw.here,hr,fun _=>g4 hl,fun XG=>by rw[oU]at XG;cases XG⟩
  ·rw[if_neg e]at tG;obtain⟨c1,k1,ob,h1,h2,h3,h4,h5⟩:=h.obj x bk tG hd;have eQ:c1≠cb:=by
    intro e';cases dp:bk.st with
    |dead=>exact hd dp
    |ro=>exact h5 dp (e'▸nK)
    |live=>exact e (h.inj b x dI bk cb co k1 hb hl tG dp hi (by rw[h1,e']))
   exact⟨c1,k1,ob,h1,by rw[hw.there c1 eQ];exact h2,h3.ext hx (cS.le_refl _),h4,h5⟩
 ·intro x y bk U9 c k k' tG hs hyb xj Is hyi;have conv:∀(z:Nat) (bz:ct),(H.set b blk')[z]?=some bz->bz.st=.live->∃bz',H[z]?=some bz'/\bz'.st=.live:=by
   intro z bz hz XS;rw[aKA]at hz;by_cases e:b=z
   ·subst e;exact⟨dI,hb,hl⟩
   ·rw[if_neg e]at hz;exact⟨bz,hz,XS⟩
  obtain⟨b1,q1,q2⟩:=conv x bk tG hs;obtain⟨b2,q3,q4⟩:=conv y U9 hyb xj;exact h.inj x y b1 b2 c k k' q1 q2 q3 q4 Is hyi
 ·intro g cs hg;rw[hL];obtain⟨c,e,f,h1,h2,h3,hz⟩:=h.glob g cs hg
  have:=hx.keep h1 h2
  exact⟨c,e,f,this.1,this.2,iI.ext hx _ _ _ _ _ (cS.le_refl _) h3,hz⟩
 ·intro x bk tG hs;rw[aKA]at tG;by_cases e:b=x
  ·subst e;rw[if_pos rfl,if_pos ek]at tG;cases tG
   exact CZ
  ·rw[if_neg e]at tG;exact h.pT x bk tG hs
 ·intro x p hp q;rw[aKA]at q;by_cases e:b=x
  ·subst e;rw[if_pos rfl,if_pos ek]at q;cases q;cases oU
  ·rw[if_neg e]at q;exact h.res x p hp q
def fR.drew(h:fR E Lo w0 ι H w){w':World}(hh:w'.heap=w.heap)(hos:w'.os=w.os)(EM:w'.tape=w.tape)(zP:w'.output=w.output):
  fR E Lo w0 ι H w'/\Ext w (Live Lo ι H) w' (Live Lo ι H):=by
 have hx:Ext w (Live Lo ι H) w' (Live Lo ι H):=⟨by rw[hh];exact aKE _,fun c _ hn=>⟨by rw[hh],hn⟩,fun c cs e f hc=>⟨cs,f,by rw[hh];exact hc,rfl⟩⟩;refine⟨⟨h.below.trans ⟨hos,EM,zP,by rw[hh];exact aKE _,fun k _=>by rw[hh]⟩,h.lo,fun b p hp=>by rw[hh];exact h.Ih b p hp,?_,h.inj,?_,h.pT,h.res⟩,hx⟩
 ·intro b bk hb hd;obtain⟨c1,k1,ob,h1,h2,h3,h4,h5⟩:=h.obj b bk hb hd;exact⟨c1,k1,ob,h1,by rw[hh];exact h2,h3.ext hx (cS.le_refl _),h4,h5⟩
 ·intro g cs hg;obtain⟨c,e,f,h1,h2,h3,hz⟩:=h.glob g cs hg;exact⟨c,e,f,by rw[hh];exact h1,h2,iI.ext hx _ _ _ _ _ (cS.le_refl _) h3,hz⟩
def fR.weaken(h:fR E Lo w0 ι H w){H':Hp}(hlen:H'.length=H.length)(il:∀b:Nat,H'[b]?=some dw->H[b]?=some dw)
  (hb:∀(b:Nat) (blk':ct),H'[b]?=some blk'->blk'.st≠ .dead->H[b]?=some blk'∨∃dI,H[b]?=some dI/\dI.st=.live/\blk'.st=.ro/\∀ι w L co o,fZ ι w L co dI o->fZ ι w L co blk' o):
  fR E Lo w0 ι H' w/\Ext w (Live Lo ι H) w (Live Lo ι H'):=by
 have hL:∀c,Live Lo ι H' c->Live Lo ι H c:=by
  rintro c (hc|⟨b,bk,co,h1,h2,h3⟩)
  ·exact .inl hc
  ·rcases hb b bk h1 (by rw[h2];simp)with h'|⟨b0,_,_,h5,_⟩
   ·exact .inr ⟨b,bk,co,h',h2,h3⟩
   ·rw[h2]at h5;cases h5
 have hx:Ext w (Live Lo ι H) w (Live Lo ι H'):=⟨aKE _,fun c _ hn=>⟨rfl,fun h'=>hn (hL c h')⟩,fun c cs e f hc=>⟨cs,f,hc,rfl⟩⟩;have yt:∀(z:Nat) (bz:ct),H'[z]?=some bz->bz.st=.live->H[z]?=some bz:=by
  intro z bz hz hs;rcases hb z bz hz (by rw[hs];simp)with h'|⟨_,_,_,h5,_⟩
  ·exact h'
  ·rw[hs]at h5;cases h5
 refine⟨⟨h.below,h.lo,fun b p hp=>by rw[hlen];exact h.Ih b p hp,?_,?_,?_,fun b bk Sd hs=>h.pT b bk (yt b bk Sd hs) hs,fun b p hp q=>h.res b p hp (il b q)⟩,hx⟩
 ·intro b bk GW hd;rcases hb b bk GW hd with h'|⟨b0,g1,g2,g3,g4⟩
  ·obtain⟨c1,k1,ob,h1,h2,h3,h4,h5⟩:=h.obj b bk h' hd;exact⟨c1,k1,ob,h1,h2,h3.ext hx (cS.le_refl _),h4,fun hr hl=>h5 hr (hL _ hl)⟩
  ·obtain⟨c1,k1,ob,h1,h2,h3,h4,h5⟩:=h.obj b b0 g1 (by rw[g2];simp);refine⟨c1,k1,ob,h1,h2,(g4 _ _ _ _ _ h3).ext hx (cS.le_refl _),(fun hl=>by rw[g3]at hl;cases hl),fun _ hl=>?_⟩;rcases hl with hl|⟨b',U9,co',q1,q2,q3⟩
   ·have:=h.lo c1 hl
    have:=h4 g2
    omega
   ·have q4:=yt b' U9 q1 q2
    have:=h.inj b b' b0 U9 c1 k1 co' g1 g2 q4 q2 h1 q3
    subst this;rw[q1]at GW;cases GW
    rw[q2]at g3;cases g3
 ·intro x y bk U9 c k k' tG hs hyb xj Is hyi;exact h.inj x y bk U9 c k k' (yt x bk tG hs) hs (yt y U9 hyb xj) xj Is hyi
 ·intro g cs hg;obtain⟨c,e,f,h1,h2,h3,hz⟩:=h.glob g cs hg;exact⟨c,e,f,h1,fun hl=>h2 (hL _ hl),iI.ext hx _ _ _ _ _ (cS.le_refl _) h3,hz⟩
def fR.kill(h:fR E Lo w0 ι H w){b:Nat}(cs:List AV)(oQ:cs≠[bS]):fR E Lo w0 ι (H.set b (.cells .dead cs)) w/\Ext w (Live Lo ι H) w (Live Lo ι (H.set b (.cells .dead cs))):=
 h.weaken (by simp) (fun x hx=>by
  rw[aKA]at hx;by_cases e:b=x
  ·rw[if_pos e]at hx;split at hx
   ·exact absurd (by simpa[dw]using hx) oQ
   ·cases hx
  ·rw[if_neg e]at hx;exact hx) fun x bk hx hd=>by
  rw[aKA]at hx;by_cases e:b=x
  ·rw[if_pos e]at hx;split at hx
   ·cases hx;exact absurd rfl hd
   ·cases hx
  ·rw[if_neg e]at hx;exact .inl hx
def fR.ZJ(h:fR E Lo w0 ι H w){b aP cb co co':Nat}{dI blk':ct}{cs0:List AV}{o o':Obj}{w':World}(hb:H[b]?=some dI)(hl:dI.st=.live)(oU:blk'.st=.live)
  (hf:mD ι H aP) (hi:ι b=some (cb,co)) (ho:w.heap[cb]?=some o) (r8:jO o o') (hw:El w w' cb o')
  (hr:fZ (ι.put aP (cb,co')) w' (Live Lo ι H) co' blk' o') (oQ:cs0≠[bS]) (CZ:blk'.pT E:=by trivial):
  fR E Lo w0 (ι.put aP (cb,co')) (cJ (H.set b (.cells .dead cs0)) aP blk') w'/\
   Ext w (Live Lo ι H) w' (Live Lo (ι.put aP (cb,co')) (cJ (H.set b (.cells .dead cs0)) aP blk')):=by
 have ek:=(aKB.1 hb).1;have Uc:b≠aP:=fun e=>by subst e;rw[hf.1]at hi;cases hi
 have EH:aP<=(H.set b (.cells .dead cs0)).length:=by simpa using hf.le
 have get:∀x,(cJ (H.set b (.cells .dead cs0)) aP blk')[x]?=if x=aP then some blk' else if x=b then some (.cells .dead cs0)else H[x]?:=by
  intro x;rw[mV EH x,aKA];by_cases e:x=aP
  ·rw[if_pos e,if_pos e]
  ·rw[if_neg e,if_neg e];by_cases e2:b=x
   ·subst e2;simp[ek]
   ·rw[if_neg e2,if_neg (fun q=>e2 q.symm)]
 have nK:Live Lo ι H cb:=.inr ⟨b,dI,co,hb,hl,hi⟩;have hL:Live Lo (ι.put aP (cb,co')) (cJ (H.set b (.cells .dead cs0)) aP blk')=Live Lo ι H:=by
  refine Live.congr fun c=>⟨?_,?_⟩
  ·rintro(hc|⟨x,bk,k,h1,h2,h3⟩)
   ·exact .inl hc
   ·rw[get]at h1;unfold cS.put at h3;by_cases e:x=aP
    ·rw[if_pos e]at h3;cases h3;exact nK
    ·rw[if_neg e]at h1 h3;by_cases e2:x=b
     ·rw[if_pos e2]at h1;cases h1;cases h2
     ·rw[if_neg e2]at h1;exact .inr ⟨x,bk,k,h1,h2,h3⟩
  ·rintro(hc|⟨x,bk,k,h1,h2,h3⟩)
   ·exact .inl hc
   ·by_cases e2:x=b
    ·subst e2;rw[hi]at h3;cases h3
     exact .inr ⟨aP,blk',co',by rw[get,if_pos rfl],oU,by unfold cS.put;rw[if_pos rfl]⟩
    ·have e:x≠aP:=fun e=>by subst e;rw[hf.1]at h3;cases h3
     exact .inr ⟨x,bk,k,by rw[get,if_neg e,if_neg e2];exact h1,h2,by unfold cS.put;rw[if_neg e];exact h3⟩
 have hx:Ext w (Live Lo ι H) w' (Live Lo ι H):=hw.ext ho r8 nK (fun _ h=>h);have hle:=cS.wN (p:=(cb,co')) hf.1;obtain⟨D8,aEN,o1,g1,g2',_,g4,_⟩:=h.obj b dI hb (by rw[hl];simp);rw[hi]at g1;cases g1
 rw[hL];refine⟨⟨h.below.trans (hw.below (g4 hl)),h.lo,?_,?_,?_,?_,?_,?_⟩,hx⟩
 ·intro x p hp;have vR:=KX (dI:=blk') EH;rw[List.length_set]at vR;unfold cS.put at hp;split at hp
  ·rename_i e;subst e;cases hp;exact⟨vR.2,by rw[hw.size];exact(h.Ih b _ hi).2⟩
  ·have:=h.Ih x p hp
   exact⟨by omega,by rw[hw.size];exact this.2⟩
 ·intro x bk tG hd;rw[hL];rw[get]at tG;by_cases e:x=aP
  ·subst e;rw[if_pos rfl]at tG;cases tG
   exact⟨cb,co',o',by simp[cS.put],hw.here,hr,fun _=>g4 hl,fun XG=>by rw[oU]at XG;cases XG⟩
  ·rw[if_neg e]at tG;by_cases e2:x=b
   ·rw[if_pos e2]at tG;cases tG;exact absurd rfl hd
   ·rw[if_neg e2]at tG;obtain⟨c1,k1,ob,h1,h2,h3,h4,h5⟩:=h.obj x bk tG hd;have eQ:c1≠cb:=by
     intro e';cases dp:bk.st with
     |dead=>exact hd dp
     |ro=>exact h5 dp (e'▸nK)
     |live=>exact e2 (h.inj x b bk dI cb k1 co tG dp hb hl (by rw[h1,e']) hi)
    exact⟨c1,k1,ob,hle _ _ h1,by rw[hw.there c1 eQ];exact h2,h3.ext hx hle,h4,h5⟩
 ·intro x y bk U9 c k k' tG hs hyb xj Is hyi;have conv:∀(z:Nat) (bz:ct) (kz:Nat),(cJ (H.set b (.cells .dead cs0)) aP blk')[z]?=some bz->bz.st=.live->(ι.put aP (cb,co')) z=some (c,kz)->
    ∃z' bz' kz',H[z']?=some bz'/\bz'.st=.live/\ι z'=some (c,kz')/\(z=aP/\z'=b∨z≠aP/\z≠b/\z'=z):=by
   intro z bz kz hz XS hzi;rw[get]at hz;unfold cS.put at hzi;by_cases e:z=aP
   ·rw[if_pos e]at hzi;cases hzi
    exact⟨b,dI,co,hb,hl,hi,.inl ⟨e,rfl⟩⟩
   ·rw[if_neg e]at hz hzi;by_cases e2:z=b
    ·rw[if_pos e2]at hz;cases hz;cases XS
    ·rw[if_neg e2]at hz;exact⟨z,bz,kz,hz,XS,hzi,.inr ⟨e,e2,rfl⟩⟩
  obtain⟨x',b1,k1,q1,q2,q3,q4⟩:=conv x bk k tG hs Is;obtain⟨y',b2,k2,r1,r2,r3,r4⟩:=conv y U9 k' hyb xj hyi
  have:=h.inj x' y' b1 b2 c k1 k2 q1 q2 r1 r2 q3 r3
  rcases q4 with⟨q4,q5⟩|⟨q4,q5,q6⟩<;>rcases r4 with⟨r4,r5⟩|⟨r4,r5,r6⟩
  ·rw[q4,r4]
  ·exact absurd (by rw[<-r6,<-this,q5]) r5
  ·exact absurd (by rw[<-q6,this,r5]) q5
  ·rw[<-q6,<-r6,this]
 ·intro g cs hg;rw[hL];obtain⟨c,e,f,h1,h2,h3,hz⟩:=h.glob g cs hg
  have:=hx.keep h1 h2
  exact⟨c,e,f,this.1,this.2,iI.ext hx _ _ _ _ _ (cS.le_refl _) h3,hz⟩
 ·intro x bk tG hs;rw[get]at tG;split at tG
  ·cases tG;exact CZ
  ·split at tG
   ·cases tG;cases hs
   ·exact h.pT x bk tG hs
 ·intro x p hp q;rw[get]at q;unfold cS.put at hp;by_cases e:x=aP
  ·rw[if_pos e]at q;cases q;cases oU
  ·rw[if_neg e]at q hp;by_cases e2:x=b
   ·rw[if_pos e2]at q;exact oQ (by simpa[dw]using q)
   ·rw[if_neg e2]at q;exact h.res x p hp q
end
end Dv
