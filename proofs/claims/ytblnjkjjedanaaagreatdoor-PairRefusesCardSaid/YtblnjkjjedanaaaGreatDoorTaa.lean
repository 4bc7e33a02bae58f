/- A part of the proof that PairRefuses returns true for every input; no condition of its own. -/
import Derived.Calls
import Derived.Orders
import Derived.Below
import Derived.RangeFuncLeaves
import Derived.OrdersIn
set_option linter.all false
set_option maxHeartbeats 100000000
set_option maxRecDepth 100000
open List renaming replicate->aK6,getElem?_take->aK7,getElem?_drop->aK8
namespace Dv
open Go
noncomputable section
inductive AV where
 |bool (b:Bool)
 |int (k:IntKind) (n:Int)
 |str (s:List UInt8)
 |jH
 |b6 (b off:Nat)
 |eU (cells:List AV) (off:Nat)
 |rX (g off:Nat)
 |aH
 |ef
 |aI (b off len esz kc:Nat)
 |aJ (cells:List AV) (len:Nat)
 |jW
 |iL (b:Nat)
 |xk (keys Gn:List AV)
 |jl
 |func (f:Nat) (first cap:List AV)
 |nilIface
 |iface (t:Nat) (v:AV)
 |agg (cells:List AV)
 |tuple (vs:List AV)
 |yield (l:Nat)
 deriving Inhabited
inductive iH where
 |live|ro|dead
 deriving DecidableEq,Inhabited
inductive cG where
 |cells (st:iH) (cs:List AV)
 |map (st:iH) (keys Gn:List AV)
 |kF (s:List UInt8) (pos:Nat)
 |loop (st:LoopState) (pending:Option Code) (ts:List AV) (params:List Nat) (assign body:Code)
 deriving Inhabited
abbrev Hp:=List cG
structure yT where
 cS:TypeDesc
 isAgg:Bool
 size:Nat
 bytes:Nat
 zero:Option (List AV)
 eQ:Bool
 deriving Inhabited
structure FnI where
 code:Code
 ntmps:Nat
 results:List ResultVar
 pure:Bool
 eX:Bool
 deriving Inhabited
structure Env where
 ty:Nat->Option yT
 fn:Nat->Option FnI
 glob:Nat->Option (List AV)
 ov:Nat->List AV->Option AV
 ud:Nat->List AV->Hp->Option (AV×Hp)
 pairs:Nat->Nat->List (Nat×Nat)
def aX:AV:=.tuple []
def AV.cells:AV->List AV
 |.agg cs=>cs
 |v=>[v]
def dh{α β:Type}(f:α->Option β):List α->Option (List β)
 |[]=>some []
 |x::xs=>match f x with
  |none=>none
  |some y=>match dh f xs with
   |none=>none
   |some ys=>some (y::ys)
def b7:AV->Bool
 |.agg _|.tuple _=>false
 |_=>true
def CE:Nat->Value->Option AV
 |0,_=>none
 |n+1,v=>match v with
  |.bool b=>some (.bool b)
  |.int k n=>some (.int k n)
  |.string s=>some (.str s.data.toList)
  |.pointer none=>some .jH
  |.slice none 0 0=>some .aH
  |.map none=>some .jW
  |.nilFunc=>some .jl
  |.nilIface=>some .nilIface
  |.agg cs=>(dh (CE n) cs.toList).map .agg
  |.tuple cs=>(dh (CE n) cs.toList).map .tuple
  |.iface t v=>(CE n v).map (.iface t)
  |_=>none
def atX(v:Value):Option AV:=CE 20 v
mutual
def aN:AV->Bool
 |.b6 .. |.aI .. |.iL _|.yield _=>false
 |.agg cs=>bE cs
 |.tuple cs=>bE cs
 |.iface _ v=>aN v
 |.func _ a b=>bE a&&bE b
 |_=>true
def bE:List AV->Bool
 |[]=>true
 |x::xs=>aN x&&bE xs
end
def bJ:AV->Bool
 |.bool _|.int .. |.str _|.jH|.aH|.ef|.jW|.jl|.nilIface=>true
 |.agg cs=>wX cs
 |.tuple cs=>wX cs
 |_=>false
where
 wX:List AV->Bool
 |[]=>true
 |x::xs=>bJ x&&wX xs
def fz(H:Hp):Nat->AV->Option (AV×List Nat)
 |0,_=>none
 |n+1,av=>
  let l (cs:List AV):Option (List AV×List Nat):=(dh (fz H n) cs).map fun r=>(r.map (·.1),r.flatMap (·.2))
  match av with
  |.b6 b off=>match H[b]? with
   |some (.cells st cs)=>if st=.dead then none else(l cs).map fun(c,bs)=>(.eU c off,b::bs)
   |_=>none
  |.aI b off len esz _=>match H[b]? with
   |some (.cells st cs)=>if st=.dead||cs.length<off+len*esz then none else
    (l ((cs.drop off).take (len*esz))).map fun(c,bs)=>(.aJ c len,b::bs)
   |_=>none
  |.iL b=>match H[b]? with
   |some (.map st ks vs)=>if st=.dead then none else match l ks,l vs with
    |some (k,b1),some (v,b2)=>some (.xk k v,b::(b1++b2))
    |_,_=>none
   |_=>none
  |.agg cs=>(l cs).map fun(c,bs)=>(.agg c,bs)
  |.tuple cs=>(l cs).map fun(c,bs)=>(.tuple c,bs)
  |.iface t v=>(fz H n v).map fun(c,bs)=>(.iface t c,bs)
  |.func f a c=>match l a,l c with
   |some (a,b1),some (c,b2)=>some (.func f a c,b1++b2)
   |_,_=>none
  |.yield _=>none
  |v=>some (v,[])
def cG.nN:cG->cG
 |.cells .live cs=>.cells .ro cs
 |.map .live ks vs=>.map .ro ks vs
 |b=>b
def mark(H:Hp)(bs:List Nat):Hp:=bs.foldl (fun H b=>H.modify b cG.nN) H
def bW(H:Hp)(vs:List AV):Option (List AV×List Nat):=
 if bE vs then some (vs,[])else
 match dh (fz H 40) vs with
 |none=>none
 |some r=>some (r.map (·.1),r.flatMap (·.2))
inductive cJ where
 |bM (l:List (Nat×cG))
 |marks (l:List Nat)
 |looks (l:List Nat)
 |vK (H:Hp)
def dP(H:Hp)(b:Nat)(x:cG):Hp:=if b<H.length then H.set b x else H++[x]
def cJ.app(H:Hp):cJ->Hp
 |.bM l=>l.foldl (fun H p=>dP H p.1 p.2) H
 |.marks l=>mark H l
 |.looks _=>H
 |.vK H'=>H'
def aV(k:IntKind)(n:Int):Int:=k.wrap n
def wP(op:BinOp)(k:IntKind)(a b:Int):Option AV:=
 match op with
 |.add=>some (.int k (aV k (a+b)))
 |.sub=>some (.int k (aV k (a-b)))
 |.mul=>some (.int k (aV k (a*b)))
 |.quo=>if b=0 then none else some (.int k (aV k (a.tdiv b)))
 |.rem=>if b=0 then none else some (.int k (a.tmod b))
 |.and=>some (.int k (aV k (BitVec.ofInt k.bits a&&&BitVec.ofInt k.bits b).toNat))
 |.or=>some (.int k (aV k (BitVec.ofInt k.bits a|||BitVec.ofInt k.bits b).toNat))
 |.xor=>some (.int k (aV k (BitVec.ofInt k.bits a^^^BitVec.ofInt k.bits b).toNat))
 |.andNot=>some (.int k (aV k (BitVec.ofInt k.bits a&&& ~~~BitVec.ofInt k.bits b).toNat))
 |.eql=>some (.bool (a==b))
 |.neq=>some (.bool (a !=b))
 |.lss=>some (.bool (a<b))
 |.leq=>some (.bool (a<=b))
 |.gtr=>some (.bool (a>b))
 |.geq=>some (.bool (a≥b))
 |_=>none
def Yi(op:BinOp)(a b:List UInt8):Option AV:=
 match op with
 |.add=>if((a.length+b.length:Nat):Int)>9223372036854775807 then none else some (.str (a++b))
 |.eql=>some (.bool (a==b))
 |.neq=>some (.bool (!(a==b)))
 |.lss=>some (.bool (Op.bytesLess a b))
 |.leq=>some (.bool (Op.bytesLess a b||a==b))
 |.gtr=>some (.bool (!(Op.bytesLess a b||a==b)))
 |.geq=>some (.bool (!Op.bytesLess a b))
 |_=>none
def ik(E:Env)(t:Nat)(cs:List AV)(off:Nat):Option AV:=
 match E.ty t with
 |none=>none
 |some i=>if i.isAgg then(if off+i.size<=cs.length then some (.agg ((cs.drop off).take i.size))else none)else cs[off]?
def eqFields(E:Env)(eq:Nat->AV->AV->Option Bool)(xs ys:List AV):List Field->Option Bool
 |[]=>some true
 |f::fs=>
  if f.name= "_" then none else
  match ik E f.type xs f.offset,ik E f.type ys f.offset with
  |some a,some b=>match eq f.type a b with
   |some true=>eqFields E eq xs ys fs
   |some false=>some false
   |none=>none
  |_,_=>none
def qN(E:Env)(eq:Nat->AV->AV->Option Bool)(elem size:Nat)(xs ys:List AV):Nat->Nat->Option Bool
 |0,_=>some true
 |m+1,i=>
  match ik E elem xs (i*size),ik E elem ys (i*size)with
  |some a,some b=>match eq elem a b with
   |some true=>qN E eq elem size xs ys m (i+1)
   |some false=>some false
   |none=>none
  |_,_=>none
def uw(E:Env):Nat->Nat->AV->AV->Option Bool
 |0,_,_,_=>none
 |n+1,t,x,y=>
  match E.ty t with
  |none=>none
  |some i=>
  match i.cS,x,y with
  |.bool,.bool a,.bool b=>some (a==b)
  |.int _,.int k a,.int k' b=>if k=k' then some (a==b)else none
  |.string,.str a,.str b=>some (a==b)
  |.struct fields,.agg xs,.agg ys=>if !i.eQ then none else eqFields E (uw E n) xs ys fields.toList
  |.array len elem,.agg xs,.agg ys=>match E.ty elem with
   |none=>none
   |some ei=>qN E (uw E n) elem ei.size xs ys len 0
  |.pointer _,.jH,.jH=>some true
  |.pointer _,.jH,.b6 .. |.pointer _,.jH,.eU .. |.pointer _,.b6 ..,.jH|.pointer _,.eU ..,.jH=>some false
  |.slice _,.aH,.aH=>some true
  |.slice _,.aH,.aI .. |.slice _,.aH,.aJ .. |.slice _,.aH,.ef
  |.slice _,.aI ..,.aH|.slice _,.aJ ..,.aH|.slice _,.ef,.aH=>some false
  |.map _ _,.jW,.jW=>some true
  |.map _ _,.jW,.iL _|.map _ _,.jW,.xk .. |.map _ _,.iL _,.jW|.map _ _,.xk ..,.jW=>some false
  |.func _ _ _,.jl,.jl=>some true
  |.func _ _ _,.jl,.func .. |.func _ _ _,.func ..,.jl=>some false
  |.interface _,.nilIface,.nilIface=>some true
  |.interface _,.nilIface,.iface .. |.interface _,.iface ..,.nilIface=>some false
  |_,_,_=>none
def dy(E:Env)(c:Bool)(op:BinOp)(t:Nat)(x y:AV):Option AV:=
 match op,x,y with
 |.shl,.int k a,.int _ b=>if b<0 then none else some (.int k (aV k (a*2^(min b.toNat k.bits))))
 |.shr,.int k a,.int _ b=>if b<0 then none else some (.int k (a.fdiv (2^(min b.toNat k.bits))))
 |op,.int k a,.int k' b=>if k≠k' then none else wP op k a b
 |op,.str a,.str b=>Yi op a b
 |.eql,x,y=>(BX x y).bind fun ok=>if ok then(uw E 20 t x y).map .bool else none
 |.neq,x,y=>(BX x y).bind fun ok=>if ok then(uw E 20 t x y).map (fun b=>.bool (!b))else none
 |_,_,_=>none
where
 BX (x y:AV):Option Bool:=match x,y with
  |.agg _,.agg _=>(E.ty t).map (·.eQ)
  |.nilIface,.nilIface=>some c
  |_,_=>some true
def YP(op:UnOp)(x:AV):Option AV:=
 match op,x with
 |.neg,.int k n=>some (.int k (aV k (0-n)))
 |.xor,.int k n=>wP .xor k (if k.signed then-1 else k.max) n
 |.not,.bool b=>some (.bool !b)
 |_,_=>none
def hZ(place:Nat->Option (Nat×Nat))(cells:List AV):List (Nat×AV)->Option (List AV)
 |[]=>some cells
 |(i,v)::rest=>
  match place i with
  |none=>none
  |some (off,size)=>
   if v.cells.length≠size||off+size>cells.length then none
   else hZ place (cells.take off++v.cells++cells.drop (off+size)) rest
def iG(zero:List AV):Nat->List AV
 |0=>[]
 |n+1=>zero++iG zero n
def gQ(E:Env)(t:Nat):Option (Nat->Option (Nat×Nat)):=
 match E.ty t with
 |some {cS:=.struct fields,..}=>if fields.toList.all (fun f=>(E.ty f.type).isSome)then some fun i=>match fields[i]? with
  |some f=>(E.ty f.type).map fun fi=>(f.offset,fi.size)
  |none=>none
  else none
 |some {cS:=.array _ elem,..}=>(E.ty elem).map fun ei=>fun i=>some (i*ei.size,ei.size)
 |_=>none
def Fh(E:Env)(H:Hp):AV->Option (List AV×Nat)
 |.b6 b off=>match H[b]? with
  |some (.cells st cs)=>if st=.dead then none else some (cs,off)
  |_=>none
 |.eU cs off=>some (cs,off)
 |.rX g off=>(E.glob g).map fun cs=>(cs,off)
 |_=>none
def gl(E:Env)(H:Hp)(t:Nat)(p:AV):Option AV:=
 match Fh E H p with
 |some (cs,off)=>ik E t cs off
 |none=>none
def dE(cs:List AV)(off:Nat)(xs:List AV):List AV:=cs.take off++xs++cs.drop (off+xs.length)
def iC(E:Env)(H:Hp)(t:Nat)(p v:AV):Option (List (Nat×cG)):=
 match p,E.ty t with
 |.b6 b off,some i=>match H[b]? with
  |some (.cells .live cs)=>
   if v.cells.length≠i.size||off+i.size>cs.length||!v.cells.all b7 then none
   else some [(b,.cells .live (dE cs off v.cells))]
  |_=>none
 |_,_=>none
def asNat(lim:Nat):AV->Option Nat
 |.int _ n=>if 0<=n/\n<=lim then some n.toNat else none
 |_=>none
def hiE(len kc:Nat):Option AV->Option Nat
 |none=>some len
 |some v=>asNat kc v
def loE(h:Nat):Option AV->Option Nat
 |none=>some 0
 |some v=>asNat h v
def gG(len kc:Nat)(lo hi:Option AV):Option (Nat×Nat):=
 match hiE len kc hi with
 |none=>none
 |some h=>match loE h lo with
  |none=>none
  |some l=>some (l,h)
def iM(E:Env)(t:Nat)(x:AV)(lo hi:Option AV):Option AV:=
 match E.ty t with
 |none=>none
 |some i=>
 match i.cS,x with
 |.string,.str s=>(gG s.length s.length lo hi).map fun(l,h)=>.str ((s.drop l).take (h-l))
 |.slice e,.aH=>match E.ty e,gG 0 0 lo hi with
  |some _,some _=>some .aH
  |_,_=>none
 |.slice e,.ef=>match E.ty e,gG 0 0 lo hi with
  |some _,some _=>some .ef
  |_,_=>none
 |.slice e,.aI b off len esz kc=>match E.ty e,gG len kc lo hi with
  |some ei,some (l,h)=>if ei.size≠esz then none
   else if l=0 then some (.aI b off h esz kc)
   else if l=h then some .ef
   else some (.aI b (off+l*esz) (h-l) esz (kc-l))
  |_,_=>none
 |.slice e,.aJ cs len=>match E.ty e,gG len len lo hi with
  |some ei,some (l,h)=>
   if l=h then some .ef
   else some (.aJ ((cs.drop (l*ei.size)).take ((h-l)*ei.size)) (h-l))
  |_,_=>none
 |_,_=>none
def jw(E:Env)(H:Hp)(t:Nat)(p:AV)(lo hi:Option AV):Option AV:=
 match E.ty t with
 |some {cS:=.array n e,..}=>match E.ty e,gG n n lo hi with
  |some ei,some (l,h)=>
   match p with
   |.b6 b off=>match H[b]? with
    |some (.cells st cs)=>if st=.dead∨cs.length<off+n*ei.size∨cs.length=0 then none else
     if l=h then some .ef else some (.aI b (off+l*ei.size) (h-l) ei.size (n-l))
    |_=>none
   |.eU cs off=>if l=h then some .ef else some (.aJ ((cs.drop (off+l*ei.size)).take ((h-l)*ei.size)) (h-l))
   |_=>none
  |_,_=>none
 |_=>none
def cI(E:Env)(t:Nat)(x ix:AV):Option AV:=
 match E.ty t,ix with
 |some i,.int _ n=>
  match i.cS with
  |.array len e=>match E.ty e with
   |some ei=>if 0<=n/\n<len then(match x with
    |.b6 b off=>some (.b6 b (off+n.toNat*ei.size))
    |.eU cs off=>some (.eU cs (off+n.toNat*ei.size))
    |.rX g off=>some (.rX g (off+n.toNat*ei.size))
    |_=>none)else none
   |none=>none
  |.slice e=>match E.ty e with
   |some ei=>(match x with
    |.aI b off len esz _=>if esz=ei.size/\0<=n/\n<len then some (.b6 b (off+n.toNat*esz))else none
    |.aJ cs len=>if 0<=n/\n<len then some (.eU cs (n.toNat*ei.size))else none
    |_=>none)
   |none=>none
  |_=>none
 |_,_=>none
def qm(E:Env)(t:Nat)(x ix:AV):Option AV:=
 match E.ty t,ix with
 |some i,.int _ n=>
  match i.cS,x with
  |.array len e,.agg cs=>match E.ty e with
   |some ei=>if 0<=n/\n<len then ik E e cs (n.toNat*ei.size)else none
   |none=>none
  |.string,.str s=>if 0<=n then(s[n.toNat]?).map fun b=>.int .u8 b.toNat else none
  |_,_=>none
 |_,_=>none
def dx(E:Env)(t:Nat)(x:AV)(f:Nat):Option AV:=
 match E.ty t with
 |some {cS:=.struct fields,..}=>match fields[f]? with
  |some fd=>match E.ty fd.type with
   |some fi=>if fi.size=0 then none else(match x with
    |.b6 b off=>some (.b6 b (off+fd.offset))
    |.eU cs off=>some (.eU cs (off+fd.offset))
    |.rX g off=>some (.rX g (off+fd.offset))
    |_=>none)
   |none=>none
  |none=>none
 |_=>none
def Eb(E:Env)(t:Nat)(x:AV)(f:Nat):Option AV:=
 match E.ty t,x with
 |some {cS:=.struct fields,..},.agg cs=>match fields[f]? with
  |some fd=>ik E fd.type cs fd.offset
  |none=>none
 |_,_=>none
def GH(E:Env)(src dst:Nat)(x:AV):Option AV:=
 match E.ty src,E.ty dst,x with
 |some _,some {cS:=.int k,..},.int _ n=>some (.int k (aV k n))
 |some _,some {cS:=.string,..},.str s=>some (.str s)
 |_,_,_=>none
def AQ:List AV->Option (List UInt8)
 |[]=>some []
 |.int .u8 n::cs=>(AQ cs).map (UInt8.ofNat n.toNat::·)
 |_=>none
def kf(H:Hp)(esz:Nat):AV->Option (List AV)
 |.aH|.ef=>some []
 |.aJ cs len=>if cs.length=len*esz then some cs else none
 |.aI b off len e _=>if e≠esz then none else match H[b]? with
  |some (.cells st cs)=>if st=.dead∨cs.length<off+len*esz then none else some ((cs.drop off).take (len*esz))
  |_=>none
 |_=>none
def pV:AV->Option Nat
 |.aH|.ef=>some 0
 |.aJ _ n=>some n
 |.aI _ _ n _ _=>some n
 |.str s=>some s.length
 |_=>none
def plainKey(E:Env):Nat->Nat->Bool
 |0,_=>false
 |n+1,t=>match E.ty t with
  |some i=>(match i.cS with
   |.int _|.string|.bool=>true
   |.array _ e=>plainKey E n e
   |.struct fs=>i.eQ&&fs.toList.all fun f=>plainKey E n f.type
   |_=>false)
  |none=>false
def qn(E:Env)(kt:Nat)(k x:AV):Option Bool:=uw E 20 kt k x
def JE:Nat->AV->AV->Bool
 |_,.bool a,.bool b=>a==b
 |_,.int k a,.int j b=>k==j&&a==b
 |_,.str a,.str b=>a==b
 |n+1,.agg xs,.agg ys=>xs.length==ys.length&&(xs.zip ys).all fun(x,y)=>JE n x y
 |_,_,_=>false
def sN(eq:AV->AV->Option Bool)(k:AV):List AV->List AV->Nat->Option (Option (Nat×AV))
 |x::xs,v::vs,i=>match eq k x with
  |some true=>some (some (i,v))
  |some false=>sN eq k xs vs (i+1)
  |none=>none
 |[],[],_=>some none
 |_,_,_=>none
def gX(E:Env)(t:Nat):Option AV:=
 match E.ty t with
 |some i=>match i.zero with
  |some cs=>if i.isAgg then some (.agg cs)else(match cs with|[c]=>some c|_=>none)
  |none=>none
 |none=>none
def Bm(H:Hp):AV->Option (List AV×List AV)
 |.jW=>some ([],[])
 |.xk ks vs=>some (ks,vs)
 |.iL b=>match H[b]? with
  |some (.map st ks vs)=>if st=.dead then none else some (ks,vs)
  |_=>none
 |_=>none
def jk(E:Env)(H:Hp)(t:Nat)(m k:AV)(ok:Bool):Option AV:=
 match E.ty t with
 |some {cS:=.map kt et,..}=>match Bm H m with
  |some (ks,vs)=>if !plainKey E 20 kt||qn E kt k k !=some true then none else match sN (qn E kt) k ks vs 0 with
   |some (some (_,v))=>some (if ok then .tuple [v,.bool true]else v)
   |some none=>(gX E et).map fun z=>if ok then .tuple [z,.bool false]else z
   |none=>none
  |none=>none
 |_=>none
def ek(E:Env)(H:Hp)(t:Nat)(m k v:AV):Option (List (Nat×cG)):=
 match E.ty t,m with
 |some {cS:=.map kt _,..},.iL b=>match H[b]? with
  |some (.map .live ks vs)=>if !plainKey E 20 kt then none else match qn E kt k k,sN (qn E kt) k ks vs 0 with
   |some true,some (some (i,_))=>(match ks[i]? with
    |some k0=>if JE 20 k0 k then some [(b,.map .live ks (vs.set i v))]else none
    |none=>none)
   |some true,some none=>some [(b,.map .live (ks++[k]) (vs++[v]))]
   |_,_=>none
  |_=>none
 |_,_=>none
def gq:Nat:=140737488355328
def fL(E:Env)(aM:Nat)(t:Nat)(l c:AV):Option (AV×List (Nat×cG)):=
 match E.ty t,l,c with
 |some {cS:=.slice e,..},.int _ n,.int _ m=>match E.ty e with
  |some ei=>match ei.zero with
   |some z=>
    if 0<=n/\n<=m/\m.toNat*ei.bytes<=gq/\m<=4611686018427387904/\z.length=ei.size/\0<ei.size then
     some (.aI aM 0 n.toNat ei.size m.toNat,[(aM,.cells .live (iG z m.toNat))])
    else none
   |none=>none
  |none=>none
 |_,_,_=>none
def sJ(H:Hp)(esz:Nat)(x:AV):Option (List AV):=
 match x with
 |.str b=>if esz=1 then some (b.map fun(c:UInt8)=>AV.int .u8 c.toNat)else none
 |x=>kf H esz x
def vJ(H:Hp)(ei:yT)(iz:Bool)(x:AV):Option (Nat×List AV):=
 if iz then(match x,ei.zero with
  |.int _ n,some z=>if 0<=n/\n<=4611686018427387904/\n.toNat*ei.bytes<=gq/\z.length=ei.size then some (n.toNat,iG z n.toNat)else none
  |_,_=>none)
 else(match pV x,sJ H ei.size x with
  |some n,some xs=>some (n,xs)
  |_,_=>none)
def fM(E:Env)(H:Hp)(aM:Nat)(iz:Bool)(t:Nat)(s x:AV):Option (AV×List (Nat×cG)):=
 match E.ty t with
 |some {cS:=.slice e,..}=>match E.ty e with
  |some ei=>
   match vJ H ei iz x with
   |some (n,xs)=>
    if n=0 then(match s with|.aH|.ef|.aI .. |.aJ .. =>some (s,[])|_=>none)else
    if ei.size=0||!xs.all b7||ei.zero.isNone then none else
    match s with
    |.aH=>
     if n*ei.bytes<=gq/\n<=4611686018427387904 then some (.aI aM 0 n ei.size n,[(aM,.cells .live xs)])else none
    |.aI b off len esz kc=>match H[b]? with
     |some (.cells .live cs)=>
      if len+n<=kc then(if esz=ei.size/\off+(len+n)*esz<=cs.length then
       some (.aI b off (len+n) esz kc,[(b,.cells .live (dE cs (off+len*esz) xs))])else none)else
      if esz=ei.size/\off+len*esz<=cs.length/\(len+n)*ei.bytes<=gq/\len+n<=4611686018427387904 then
       some (.aI aM 0 (len+n) esz (len+n),[(b,.cells .dead []),(aM,.cells .live ((cs.drop off).take (len*esz)++xs))])
      else none
     |_=>none
    |_=>none
   |none=>none
  |none=>none
 |_=>none
def nz(E:Env)(aM:Nat)(t:Nat)(s x:AV):Option (AV×List (Nat×cG)):=
 match E.ty t,s,x with
 |some {cS:=.slice e,..},.aH,.int _ n=>match E.ty e with
  |some ei=>match ei.zero with
   |some z=>
    if 0<n/\n<=4611686018427387904/\n.toNat*ei.bytes<=gq/\z.length=ei.size/\0<ei.size/\0<ei.bytes then
     some (.aI aM 0 n.toNat ei.size n.toNat,[(aM,.cells .live (iG z n.toNat))])
    else none
   |none=>none
  |none=>none
 |_,_,_=>none
def v7(E:Env)(H:Hp)(t:Nat)(d x:AV):Option (AV×List (Nat×cG)):=
 match E.ty t with
 |some {cS:=.slice e,..}=>match E.ty e with
  |some ei=>
   match pV d,pV x,sJ H ei.size x with
   |some dn,some xn,some xs=>
    let n:=min xn dn
    if n=0 then(match d with|.aH|.ef|.aI .. =>some (.int .i64 0,[])|_=>none)else
    match d with
    |.aI b off _ esz _=>match H[b]? with
     |some (.cells .live cs)=>
      if esz=ei.size/\off+n*esz<=cs.length/\xs.all b7 then
       some (.int .i64 n,[(b,.cells .live (dE cs off (xs.take (n*esz))))])
      else none
     |_=>none
    |_=>none
   |_,_,_=>none
  |none=>none
 |_=>none
def sf(E:Env)(H:Hp)(t:Nat)(x:AV):Option AV:=
 match E.ty t,x with
 |some {cS:=.string,..},.str s=>some (.int .i64 s.length)
 |some {cS:=.array n _,..},_=>some (.int .i64 n)
 |some {cS:=.slice _,..},.aH=>some (.int .i64 0)
 |some {cS:=.slice _,..},.ef=>some (.int .i64 0)
 |some {cS:=.slice _,..},.aJ _ n=>some (.int .i64 n)
 |some {cS:=.slice _,..},.aI _ _ n _ _=>some (.int .i64 n)
 |some {cS:=.map _ _,..},m=>(Bm H m).map fun(ks,_)=>.int .i64 ks.length
 |_,_=>none
def QU:AV->AV->Option AV
 |.int k x,.int k' y=>if k=k' then some (.int k (if y>x then y else x))else none
 |_,_=>none
def QV:AV->AV->Option AV
 |.int k x,.int k' y=>if k=k' then some (.int k (if y<x then y else x))else none
 |_,_=>none
def B0(f:AV->AV->Option AV)(x:AV):List AV->Option AV
 |[]=>some x
 |y::ys=>match f x y with
  |some z=>B0 f z ys
  |none=>none
def aZ(E:Env)(H:Hp)(aM:Nat)(b:Builtin)(eg:List Nat)(args:List AV):Option (AV×List (Nat×cG)):=
 match b,eg,args with
 |.append,t::u::_,s::x::_=>(match E.ty u with
  |some {cS:=.int _,..}=>nz E aM t s x
  |some _=>fM E H aM false t s x
  |none=>none)
 |.copy,t::_,d::x::_=>v7 E H t d x
 |.cap,t::_,.aH::_=>(match E.ty t with
  |some {cS:=.slice _,..}=>some (.int .i64 0,[])
  |_=>none)
 |.len,t::_,x::_=>(sf E H t x).map fun v=>(v,[])
 |.max,_,x::xs=>(B0 QU x xs).map fun v=>(v,[])
 |.min,_,x::xs=>(B0 QV x xs).map fun v=>(v,[])
 |_,_,_=>none
inductive Cls where
 |n|r|s|w
 deriving DecidableEq,Repr
def ck(E:Env)(o:Oper):Bool:=
 match o.op with
 |.alloc _|.box .. |.buildSlice .. |.makeMap .. |.makeSlice .. |.range .. =>true
 |.convert s d _=>(match E.ty s,E.ty d with
  |some {cS:=.string,..},some {cS:=.slice _,..}=>true
  |_,_=>false)
 |.call c=>(match c.callee with
  |.builtin .append=>true
  |_=>false)
 |_=>false
def jG(E:Env)(o:Oper):Cls:=
 match o.op with
 |.move _|.assign _|.pick .. |.build .. |.nilCheck _|.binOp .. |.unOp .. |.makeInterface .. |.makeFunc ..
 |.fieldAddr .. |.field .. |.indexAddr .. |.index .. |.extract .. |.sliceToArrayPointer .. =>.n
 |.load .. |.lookup .. =>.r
 |.slice t _ _ _ _=>(match E.ty t with
  |some {cS:=.array ..,..}=>.r
  |_=>.n)
 |.alloc _|.box .. |.buildSlice .. |.makeMap .. |.makeSlice .. |.range .. |.next .. |.store .. |.mapUpdate .. |.insert .. =>.s
 |.convert s d _=>(match E.ty s,E.ty d with
  |some {cS:=.string,..},some {cS:=.slice _,..}=>.s
  |_,_=>.r)
 |.call c=>(match c.callee with
  |.builtin .len=>.r
  |.builtin .max|.builtin .min|.builtin .cap=>.n
  |.builtin .copy|.builtin .append=>.s
  |.value (.func f)=>(match E.fn f with
   |some {pure:=false,eX:=false,..}=>.w
   |_=>.r)
  |_=>.w)
 |_=>.w
def Hu(ops:Array Oper)(j:Nat):Nat->Nat->Bool
 |0,_=>false
 |n+1,i=>match ops[i]? with
  |some o=>o.after.any fun e=>Region.binds .any e&&(e.on==j||(e.on<i&&Hu ops j n e.on))
  |none=>false
def zP(o:Oper):Bool:=match o.op with
 |.load .. =>true
 |_=>false
def WJ(E:Env)(o:Oper):Bool:=match o.op with
 |.call c=>(match c.callee with
  |.value (.func f)=>(match E.fn f with
   |some {pure:=false,eX:=false,..}=>true
   |_=>false)
  |_=>false)
 |_=>false
def Vz(E:Env)(ps:List (Nat×Nat))(j i:Nat)(oj oi:Oper):Bool:=
 match jG E oj,jG E oi with
 |.n,_|_,.n|.r,.r=>true
 |.r,.w=>zP oj&&WJ E oi
 |.w,_|_,.w=>false
 |_,_=>ps.contains (j,i)
def Ae(E:Env)(ps:List (Nat×Nat))(ops:Array Oper):Bool:=
 (List.range ops.size).all fun i=>match ops[i]? with
  |some oi=>(oi.after.all fun e=>!Region.binds .any e||e.on<i)&&(List.range i).all fun j=>
    match ops[j]? with
    |some oj=>(oi.apart ops oj&&Vz E ps j i oj oi)||Hu ops j ops.size i
    |none=>true
  |none=>true
def flat:Code->Bool
 |.rangeFunc .. =>false
 |.seq a b=>flat a&&flat b
 |.cond _ a b=>flat a&&flat b
 |.block _ a=>flat a
 |.loop a=>flat a
 |.scope a=>flat a
 |_=>true
def codeOk(E:Env):Code->Bool
 |.region id ops draw=>!draw||Ae E (E.pairs id ops.size) ops
 |.seq a b=>codeOk E a&&codeOk E b
 |.cond _ a b=>codeOk E a&&codeOk E b
 |.block _ a=>codeOk E a
 |.loop a=>codeOk E a
 |.rangeFunc _ _ a b=>codeOk E a&&codeOk E b&&flat a&&flat b
 |.scope a=>codeOk E a
 |_=>true
abbrev Pc:=Nat->List AV->Option AV
abbrev Ic:=Nat->List AV->Hp->Option (AV×Hp)
def ch(tmps:List AV):Operand->Option AV
 |.tmp t=>some (tmps[t]?.getD aX)
 |.const v=>atX v
 |.func f=>some (.func f [] [])
 |.global g=>some (.rX g 0)
def nL(tmps:List AV):List Operand->Option (List AV)
 |[]=>some []
 |x::xs=>match ch tmps x with
  |none=>none
  |some v=>match nL tmps xs with
   |none=>none
   |some vs=>some (v::vs)
def xH(tmps:List AV):List (Nat×Operand)->Option (List (Nat×AV))
 |[]=>some []
 |(i,x)::xs=>match ch tmps x with
  |none=>none
  |some v=>match xH tmps xs with
   |none=>none
   |some vs=>some ((i,v)::vs)
def jc(tmps:List AV):Option Operand->Option (Option AV)
 |none=>some none
 |some x=>(ch tmps x).map some
def oO(H h:Hp):Bool:=@decide (∀b,b<H.length->h[b]?=H[b]?) (Classical.propDecidable _)
def oM(E:Env)(pc:Pc)(ic yc:Ic)(dr:Bool)(H:Hp)(fv:AV)(args:List AV):Option (AV×cJ):=
 match fv with
 |.yield l=>(yc l args H).map fun(v,h)=>(v,.vK h)
 |.func f first cap=>
  let all:=first++args++cap
  let agj:Bool:=match E.fn f with
   |some {pure:=false,eX:=d,..}=>d&&dr
   |_=>true
  if agj then
   match bW H all with
   |some (a_,bs)=>(pc f a_).map fun v=>(v,if bJ v then .looks bs else .marks bs)
   |none=>none
  else match ic f all H with
   |some (v,h)=>if dr&&!oO H h then none else some (v,.vK h)
   |none=>none
 |_=>none
def bK:Operand->Bool
 |.const _=>true
 |_=>false
def pU:Operand->Bool
 |.func _=>true
 |_=>false
def eN(E:Env)(pc:Pc)(ic yc:Ic)(dr:Bool)(ts:List AV)(H:Hp)(aM:Nat)(o:Oper):Option (AV×cJ):=
 let v (r:Option AV):Option (AV×cJ):=r.map fun x=>(x,.bM [])
 let u (r:Option (List (Nat×cG))):Option (AV×cJ):=r.map fun l=>(aX,.bM l)
 let b (r:Option (AV×List (Nat×cG))):Option (AV×cJ):=r.map fun(x,l)=>(x,.bM l)
 match o.op with
 |.move x|.assign x=>v (ch ts x)
 |.pick c a b=>(match ch ts c with
  |some (.bool t)=>v (ch ts (if t then a else b))
  |_=>none)
 |.alloc t=>b ((gX E t).map fun z=>(.b6 aM 0,[(aM,.cells .live z.cells)]))
 |.box _ x=>b ((ch ts x).map fun z=>(.b6 aM 0,[(aM,.cells .live z.cells)]))
 |.build t ps=>(match gQ E t,(E.ty t).bind (·.zero),xH ts ps.toList with
  |some pl,some z,some vs=>v ((hZ pl z vs).map .agg)
  |_,_,_=>none)
 |.buildSlice t len ps=>(match E.ty t with
  |some {cS:=.slice e,..}=>(match E.ty e with
   |some ei=>(match ei.zero,xH ts ps.toList with
    |some z,some vs=>if z.length=ei.size/\0<ei.size/\len*ei.size<=16777216 then
      b ((hZ (fun i=>some (i*ei.size,ei.size)) (iG z len) vs).map fun cs=>
       (.aI aM 0 len ei.size len,[(aM,.cells .live cs)]))
     else none
    |_,_=>none)
   |none=>none)
  |_=>none)
 |.load t a=>(match ch ts a with|some p=>v (gl E H t p)|none=>none)
 |.store t a x=>(match ch ts a,ch ts x with|some p,some z=>u (iC E H t p z)|_,_=>none)
 |.nilCheck x=>(match ch ts x with
  |some (.b6 b off)=>v (some (.b6 b off))
  |some (.eU cs off)=>v (some (.eU cs off))
  |some (.rX g off)=>v (some (.rX g off))
  |some (.func f a b)=>v (some (.func f a b))
  |some (.yield l)=>v (some (.yield l))
  |_=>none)
 |.binOp op t x y _=>(match ch ts x,ch ts y with|some a,some b=>v (dy E (bK x||bK y) op t a b)|_,_=>none)
 |.unOp op _ x=>(match ch ts x with|some a=>v (YP op a)|none=>none)
 |.convert s d x=>(match ch ts x,E.ty s,E.ty d with
  |some (.str z),some {cS:=.string,..},some {cS:=.slice e,..}=>(match E.ty e with
   |some {cS:=.int .u8,size:=1,..}=>b (some (.aI aM 0 z.length 1 z.length,[(aM,.cells .live (z.map fun c=>.int .u8 c.toNat))]))
   |_=>none)
  |some x,some {cS:=.slice e,..},some {cS:=.string,..}=>(match E.ty e,kf H 1 x with
   |some {cS:=.int .u8,size:=1,..},some cs=>v ((AQ cs).map .str)
   |_,_=>none)
  |some x,_,_=>v (GH E s d x)
  |_,_,_=>none)
 |.makeInterface t x=>(match E.ty t with
  |some i=>(match i.cS with
   |.interface _=>none
   |_=>v ((ch ts x).map (.iface t)))
  |none=>none)
 |.makeFunc (.func f) first cap=>(match nL ts first.toList,nL ts cap.toList with
  |some a,some c=>v (some (.func f a c))
  |_,_=>none)
 |.makeMap t r=>(match E.ty t,jc ts r with
  |some {cS:=.map _ _,..},some none=>b (some (.iL aM,[(aM,.map .live [] [])]))
  |some {cS:=.map _ _,..},some (some (.int _ _))=>b (some (.iL aM,[(aM,.map .live [] [])]))
  |_,_=>none)
 |.makeSlice t l c=>(match ch ts l,ch ts c with|some x,some y=>b (fL E aM t x y)|_,_=>none)
 |.slice t x lo hi mx=>(match ch ts x,jc ts lo,jc ts hi,mx with
  |some a,some l,some h,none=>(match E.ty t with
   |some {cS:=.array ..,..}=>v (jw E H t a l h)
   |_=>v (iM E t a l h))
  |_,_,_,_=>none)
 |.fieldAddr t x f=>(match ch ts x with|some a=>v (dx E t a f)|none=>none)
 |.field t x f=>(match ch ts x with|some a=>v (Eb E t a f)|none=>none)
 |.indexAddr t x i=>(match ch ts x,ch ts i with|some a,some b=>v (cI E t a b)|_,_=>none)
 |.index t x i=>(match ch ts x,ch ts i with|some a,some b=>v (qm E t a b)|_,_=>none)
 |.lookup t x i ok=>(match ch ts x,ch ts i with|some a,some b=>v (jk E H t a b ok)|_,_=>none)
 |.mapUpdate t m k x|.insert t m k x=>(match ch ts m,ch ts k,ch ts x with
  |some a,some b,some c=>u (ek E H t a b c)
  |_,_,_=>none)
 |.sliceToArrayPointer t x=>(match E.ty t,ch ts x with
  |some {cS:=.array n _,..},some (.aI b off len _ _)=>if len<n then none else v (some (.b6 b off))
  |some {cS:=.array n _,..},some (.aJ cs len)=>if len<n then none else v (some (.eU cs 0))
  |_,_=>none)
 |.range t x=>(match E.ty t,ch ts x with
  |some {cS:=.string,..},some (.str z)=>b (some (.b6 aM 0,[(aM,.kF z 0)]))
  |_,_=>none)
 |.next it true=>(match ch ts it with
  |some (.b6 i 0)=>(match H[i]? with
   |some (.kF z pos)=>if pos<z.length then
     (let d:=Utf8.decode ⟨z.toArray⟩ pos
     b (some (.tuple [.bool true,.int .i64 pos,.int .i32 d.1],[(i,.kF z (pos+d.2))])))
    else v (some (.tuple [.bool false]))
   |_=>none)
  |_=>none)
 |.extract t i=>(match ch ts t with
  |some (.tuple vs)=>v vs[i]?
  |_=>none)
 |.call c=>(match c.callee with
  |.builtin bi=>(match nL ts c.args.toList with
   |some a_=>b (aZ E H aM bi c.argTypes.toList a_)
   |none=>none)
  |.value f=>(match ch ts f,nL ts c.args.toList with
   |some fv,some a_=>oM E pc ic yc (dr&&pU f) H fv a_
   |_,_=>none)
  |_=>none)
 |_=>none
def bQ(dst:Option Nat)(v:AV)(ts:List AV):List AV:=
 match dst with
 |some d=>ts.set d v
 |none=>ts
def bU(ops:List Oper)(ts:List AV)(o:Oper):Bool:=
 match o.guard with
 |none=>true
 |some (j,want)=>match(ops[j]?).bind (·.dst)with
  |none=>false
  |some d=>match ts[d]? with
   |some (.bool b)=>b==want
   |_=>false
def cO(E:Env)(pc:Pc)(ic yc:Ic)(dr:Bool)(ops:List Oper)(aM:Nat)(o:Oper)(ts:List AV)(H:Hp):Option (List AV×cJ):=
 if bU ops ts o then
  match eN E pc ic yc dr ts H aM o with
  |some (v,e)=>some (bQ o.dst v ts,e)
  |none=>none
 else some (bQ o.dst aX ts,.bM [])
def Bo(E:Env)(pc:Pc)(ic yc:Ic)(ops:List Oper):List Oper->List AV->Hp->Option (List AV×Hp)
 |[],ts,H=>some (ts,H)
 |o::rest,ts,H=>match cO E pc ic yc false ops H.length o ts H with
  |some (df,e)=>Bo E pc ic yc ops rest df (e.app H)
  |none=>none
def fO:AV->List Nat
 |.b6 b _|.aI b _ _ _ _|.iL b=>[b]
 |_=>[]
def lf(ts:List AV)(o:Oper):List Nat:=
 o.op.operands.toList.flatMap fun x=>match ch ts x with
  |some v=>fO v
  |none=>[]
def bI(E:Env)(ts:List AV)(o:Oper)(e:cJ):List Nat×List Nat:=
 match jG E o with
 |.n=>([],[])
 |_=>match e with
  |.bM l=>(lf ts o,l.map (·.1))
  |.marks l=>(l,[])
  |.looks l=>(l,[])
  |.vK _=>([],[])
def dV:cG:=.cells .dead [aX]
def lK:Option cG->Bool
 |some (.cells .dead [.tuple []])=>true
 |_=>false
def tn(E:Env)(pc:Pc)(ic yc:Ic)(ops:List Oper):List Oper->Nat->List AV->Hp->Option (List AV×Hp×List (List Nat×List Nat))
 |[],_,ts,H=>some (ts,H,[])
 |o::rest,aM,ts,H=>if ck E o&&!lK H[aM]? then none else
  match cO E pc ic yc true ops aM o ts H with
  |some (df,e)=>match tn E pc ic yc ops rest (if ck E o then aM+1 else aM) df (e.app H)with
   |some (t,h,l)=>some (t,h,bI E ts o e::l)
   |none=>none
  |none=>none
def yF(a b:List Nat):Bool:=a.all fun x=>!b.contains x
def uS(l:List (List Nat×List Nat))(p:Nat×Nat):Bool:=
 match l[p.1]?,l[p.2]? with
 |some (r1,w1),some (r2,w2)=>yF w1 r2&&yF w1 w2&&yF r1 w2
 |_,_=>true
def zA(E:Env)(pc:Pc)(ic yc:Ic)(id:Nat)(ops:List Oper)(ts:List AV)(H:Hp):Option (List AV×Hp):=
 match tn E pc ic yc ops ops H.length ts (H++aK6 (ops.countP (ck E)) dV)with
 |some (t,h,l)=>if(E.pairs id ops.length).all (uS l)then some (t,h)else none
 |none=>none
inductive Ex where
 |normal
 |exit (id:Nat)
 |ret
 deriving DecidableEq
def iU(H:Hp)(E:Env)(ts:List AV):List ResultVar->Option (List AV)
 |[]=>some []
 |.tmp t::rs=>(iU H E ts rs).map fun vs=>ts[t]?.getD aX::vs
 |.cell a t::rs=>match gl E H t (ts[a]?.getD aX),iU H E ts rs with
  |some v,some vs=>some (v::vs)
  |_,_=>none
def kE:List AV->AV
 |[v]=>v
 |vs=>.tuple vs
abbrev Cd:=Code->List AV->Hp->Option (Ex×List AV×Hp)
def qc(E:Env)(rec:Cd):Pc:=fun f args=>
 match E.ov f args with
 |some r=>some r
 |none=>match E.fn f with
  |some fi=>if !(fi.pure||fi.eX)then none else
   match rec fi.code (args++aK6 (fi.ntmps-args.length) aX) []with
   |some (.exit _,_,_)=>none
   |some (_,ts,H)=>match iU H E ts fi.results with
    |some vs=>match bW H [kE vs]with
     |some ([v],_)=>some v
     |_=>none
    |none=>none
   |none=>none
  |none=>none
def vn(E:Env)(rec:Cd):Ic:=fun f args H=>
 match E.fn f with
 |some fi=>
  match rec fi.code (args++aK6 (fi.ntmps-args.length) aX) H with
  |some (.exit _,_,_)=>none
  |some (_,ts,H')=>(iU H' E ts fi.results).map fun vs=>(kE vs,H')
  |none=>none
 |none=>none
def um(E:Env)(rec:Cd):Ic:=fun f args H=>
 match E.ud f args H with
 |some r=>some r
 |none=>vn E rec f args H
def Mk(ts:List AV):List Nat->List AV->Option (List AV)
 |[],[]=>some ts
 |p::ps,a::a_=>Mk (ts.set p a) ps a_
 |_,_=>none
def yi(rec:Cd):Ic:=fun l args H=>
 match H[l]? with
 |some (.loop .ready _ ts ps assign body)=>match Mk ts ps args with
  |some df=>match rec assign df H with
   |some (.normal,t1,H1)=>match H1[l]? with
    |some (.loop .ready oq JO ps2 as2 b2)=>
     match rec body t1 (H1.set l (.loop .busy oq JO ps2 as2 b2))with
     |some (e,_,H2)=>match H2[l]? with
      |some (.loop _ _ Na M9 MU b3)=>match e with
       |.normal=>some (.bool true,H2.set l (.loop .ready none Na M9 MU b3))
       |.ret=>some (.bool false,H2.set l (.loop .done (some .ret) Na M9 MU b3))
       |.exit id=>some (.bool false,H2.set l (.loop .done (some (.exit id)) Na M9 MU b3))
      |_=>none
     |none=>none
    |_=>none
   |_=>none
  |none=>none
 |_=>none
def dI(E:Env)(rec:Cd):Cd:=fun c ts H=>
 match c with
 |.skip|.label _=>some (.normal,ts,H)
 |.region id ops draw=>
  (if draw then zA E (qc E rec) (um E rec) (yi rec) id ops.toList ts H
   else Bo E (qc E rec) (um E rec) (yi rec) ops.toList ops.toList ts H).map fun(t,h)=>(.normal,t,h)
 |.seq a b=>match rec a ts H with
  |some (.normal,df,H')=>rec b df H'
  |r=>r
 |.cond c a b=>match ch ts c with
  |some (.bool t)=>rec (if t then a else b) ts H
  |_=>none
 |.block id body=>match rec body ts H with
  |some (.exit CN,df,H')=>if CN=id then some (.normal,df,H')else some (.exit CN,df,H')
  |r=>r
 |.loop body=>match rec body ts H with
  |some (.normal,df,H')=>rec (.loop body) df H'
  |r=>r
 |.exit id=>some (.exit id,ts,H)
 |.ret=>some (.ret,ts,H)
 |.rangeFunc g ps assign body=>match ch ts g with
  |some (.func f first cap)=>
   match vn E rec f (first++[.yield H.length]++cap) (H++[.loop .ready none ts ps.toList assign body])with
   |some (_,H2)=>match H2[H.length]? with
    |some (.loop st oq Na M9 MU b3)=>
     if st=.busy then none else
     match oq with
     |none=>some (.normal,ts,H2.set H.length (.loop .exhausted oq Na M9 MU b3))
     |some c=>rec c ts (H2.set H.length (.loop .exhausted oq Na M9 MU b3))
    |_=>none
   |none=>none
  |_=>none
 |_=>none
def dJ(E:Env):Nat->Cd
 |0=>fun _ _ _=>none
 |n+1=>dI E (dJ E n)
def call(E:Env)(n:Nat):Pc:=qc E (dJ E n)
end
end Dv
namespace Dv
open Go Go.RowKit
abbrev dZ:=Nat->Option (Nat×Nat)
def cE:dZ:=fun _=>none
mutual
def R(ι:dZ)(w:World)(L:Nat->Prop):AV->Value->Prop
 |.bool b,v=>v=.bool b
 |.int k n,v=>v=.int k n
 |.str s,v=>v=.string ⟨s.toArray⟩
 |.jH,v=>v=.pointer none
 |.b6 b off,v=>∃cb co,ι b=some (cb,co)/\v=.pointer (some ⟨cb,co+off,none⟩)
 |.eU cs off,v=>∃cb o c e f,v=.pointer (some ⟨cb,o+off,none⟩)/\w.heap[cb]?=some (.cells c e f)/\¬L cb/\j6 cE w L c o cs
 |.rX g off,v=>v=.pointer (some ⟨g,off,none⟩)
 |.aH,v=>v=.slice none 0 0
 |.ef,v=>∃a cap,v=.slice (some a) 0 cap
 |.aI b off len esz kc,v=>∃cb co cap c e f,ι b=some (cb,co)/\v=.slice (some ⟨cb,co+off,none⟩) len cap/\len<=kc/\kc<=cap/\
   w.heap[cb]?=some (.cells c e f)/\co+off+cap*esz<=c.size
 |.aJ cs len,v=>∃cb o cap c e f,v=.slice (some ⟨cb,o,none⟩) len cap/\len<=cap/\w.heap[cb]?=some (.cells c e f)/\¬L cb/\j6 cE w L c o cs
 |.jW,v=>v=.map none
 |.iL b,v=>∃cb co,ι b=some (cb,co)/\v=.map (some cb)
 |.xk ks vs,v=>∃cb es clock,v=.map (some cb)/\w.heap[cb]?=some (.map es clock)/\¬L cb/\Rs cE w L ks (es.toList.map (·.key))/\Rs cE w L vs (es.toList.map (·.val))
 |.jl,v=>v=.nilFunc
 |.func f first cap,v=>∃a c,v=.func (.func f) a c/\Rs ι w L first a.toList/\Rs ι w L cap c.toList
 |.nilIface,v=>v=.nilIface
 |.iface t x,v=>∃y,v=.iface t y/\R ι w L x y
 |.agg cs,v=>∃vs,v=.agg vs/\Rs ι w L cs vs.toList
 |.tuple cs,v=>∃vs,v=.tuple vs/\Rs ι w L cs vs.toList
 |.yield l,v=>∃cb co,ι l=some (cb,co)/\v=.func (.yield cb) #[] #[]
def Rs(ι:dZ)(w:World)(L:Nat->Prop):List AV->List Value->Prop
 |[],vs=>vs=[]
 |x::xs,vs=>∃y ys,vs=y::ys/\R ι w L x y/\Rs ι w L xs ys
def j6(ι:dZ)(w:World)(L:Nat->Prop)(c:Array Value):Nat->List AV->Prop
 |_,[]=>True
 |o,x::xs=>(∃y,c[o]?=some y/\R ι w L x y)/\j6 ι w L c (o+1) xs
end
structure Ext(w:World)(L:Nat->Prop)(w':World)(L':Nat->Prop):Prop where
 size:w.heap.size<=w'.heap.size
 old:∀c,c<w.heap.size->¬L c->w'.heap[c]?=w.heap[c]?/\¬L' c
 shape:∀(c:Nat) (cs:Array Value) (e:TypeId) (f:Nat×Nat),w.heap[c]?=some (Obj.cells cs e f)->∃(tL:Array Value) (f':Nat×Nat),w'.heap[c]?=some (Obj.cells tL e f')/\tL.size=cs.size
theorem Ext.refl(w:World)(L:Nat->Prop):Ext w L w L:=⟨Nat.le_refl _,fun _ _ h=>⟨rfl,h⟩,fun _ cs _ f h=>⟨cs,f,h,rfl⟩⟩
theorem Ext.trans{w w' w'':World}{L L' L'':Nat->Prop}(h:Ext w L w' L')(k:Ext w' L' w'' L''):Ext w L w'' L'':=
 ⟨Nat.le_trans h.size k.size,
  fun c hc hl=>let⟨h1,h2⟩:=h.old c hc hl;let⟨k1,k2⟩:=k.old c (Nat.lt_of_lt_of_le hc h.size) h2;⟨k1.trans h1,k2⟩,
  fun c cs e f tg=>let⟨tL,f',h1,h2⟩:=h.shape c cs e f tg;let⟨agy,f'',k1,k2⟩:=k.shape c tL e f' h1;⟨agy,f'',k1,k2.trans h2⟩⟩
theorem eh{w:World}{c:Nat}{o:Obj}(h:w.heap[c]?=some o):c<w.heap.size:=by
 rcases Nat.lt_or_ge c w.heap.size with h'|h'
 ·exact h'
 ·simp[Array.getElem?_eq_none h']at h
def dZ.le(ι ι':dZ):Prop:=∀b p,ι b=some p->ι' b=some p
theorem dZ.le_refl(ι:dZ):ι.le ι:=fun _ _ h=>h
theorem dZ.le_trans{a b c:dZ}(h:a.le b)(k:b.le c):a.le c:=fun x p hx=>k x p (h x p hx)
theorem uc(ι:dZ):cE.le ι:=fun _ _ h=>by cases h
theorem Ext.keep{w w':World}{L L':Nat->Prop}(h:Ext w L w' L'){c:Nat}{o:Obj}(hc:w.heap[c]?=some o)(hl:¬L c):w'.heap[c]?=some o/\¬L' c:=by
 have:=h.old c (eh hc) hl
 exact⟨this.1.trans hc,this.2⟩
mutual
theorem R.ext{w w':World}{L L':Nat->Prop}(he:Ext w L w' L'):∀(av:AV) (ι ι':dZ) (v:Value),ι.le ι'->R ι w L av v->R ι' w' L' av v
 |.bool _,_,_,_,_,h=>by simpa[R]using h
 |.int _ _,_,_,_,_,h=>by simpa[R]using h
 |.str _,_,_,_,_,h=>by simpa[R]using h
 |.jH,_,_,_,_,h=>by simpa[R]using h
 |.b6 _ _,_,_,_,hi,h=>by
  simp only[R]at h⊢;obtain⟨cb,co,h1,h2⟩:=h;exact⟨cb,co,hi _ _ h1,h2⟩
 |.eU cs _,_,_,_,_,h=>by
  simp only[R]at h⊢;obtain⟨cb,o,c,e,f,h1,h2,h3,h4⟩:=h
  have:=he.keep h2 h3
  exact⟨cb,o,c,e,f,h1,this.1,this.2,j6.ext he cs cE cE c o (dZ.le_refl _) h4⟩
 |.rX _ _,_,_,_,_,h=>by simpa[R]using h
 |.aH,_,_,_,_,h=>by simpa[R]using h
 |.ef,_,_,_,_,h=>by simpa[R]using h
 |.aI _ _ _ _ _,_,_,_,hi,h=>by
  simp only[R]at h⊢;obtain⟨cb,co,cap,c,e,f,h1,h2,h3,h4,h5,h6⟩:=h;obtain⟨c',f',g1,g2⟩:=he.shape cb c e f h5;exact⟨cb,co,cap,c',e,f',hi _ _ h1,h2,h3,h4,g1,by omega⟩
 |.aJ cs _,_,_,_,_,h=>by
  simp only[R]at h⊢;obtain⟨cb,o,cap,c,e,f,h1,h2,h3,h4,h5⟩:=h
  have:=he.keep h3 h4
  exact⟨cb,o,cap,c,e,f,h1,h2,this.1,this.2,j6.ext he cs cE cE c o (dZ.le_refl _) h5⟩
 |.jW,_,_,_,_,h=>by simpa[R]using h
 |.iL _,_,_,_,hi,h=>by
  simp only[R]at h⊢;obtain⟨cb,co,h1,h2⟩:=h;exact⟨cb,co,hi _ _ h1,h2⟩
 |.xk ks vs,_,_,_,_,h=>by
  simp only[R]at h⊢;obtain⟨cb,es,clock,h1,h2,h3,h4,h5⟩:=h
  have:=he.keep h2 h3
  exact⟨cb,es,clock,h1,this.1,this.2,Rs.ext he ks cE cE _ (dZ.le_refl _) h4,Rs.ext he vs cE cE _ (dZ.le_refl _) h5⟩
 |.jl,_,_,_,_,h=>by simpa[R]using h
 |.func _ a b,ι,ι',_,hi,h=>by
  simp only[R]at h⊢;obtain⟨x,y,h1,h2,h3⟩:=h;exact⟨x,y,h1,Rs.ext he a ι ι' _ hi h2,Rs.ext he b ι ι' _ hi h3⟩
 |.nilIface,_,_,_,_,h=>by simpa[R]using h
 |.iface _ x,ι,ι',_,hi,h=>by
  simp only[R]at h⊢;obtain⟨y,h1,h2⟩:=h;exact⟨y,h1,R.ext he x ι ι' y hi h2⟩
 |.agg cs,ι,ι',_,hi,h=>by
  simp only[R]at h⊢;obtain⟨y,h1,h2⟩:=h;exact⟨y,h1,Rs.ext he cs ι ι' _ hi h2⟩
 |.tuple cs,ι,ι',_,hi,h=>by
  simp only[R]at h⊢;obtain⟨y,h1,h2⟩:=h;exact⟨y,h1,Rs.ext he cs ι ι' _ hi h2⟩
 |.yield _,_,_,_,hi,h=>by
  simp only[R]at h⊢;obtain⟨cb,co,h1,h2⟩:=h;exact⟨cb,co,hi _ _ h1,h2⟩
theorem Rs.ext{w w':World}{L L':Nat->Prop}(he:Ext w L w' L'):∀(xs:List AV) (ι ι':dZ) (vs:List Value),ι.le ι'->Rs ι w L xs vs->Rs ι' w' L' xs vs
 |[],_,_,_,_,h=>by simpa[Rs]using h
 |x::xs,ι,ι',_,hi,h=>by
  simp only[Rs]at h⊢;obtain⟨y,ys,h1,h2,h3⟩:=h;exact⟨y,ys,h1,R.ext he x ι ι' y hi h2,Rs.ext he xs ι ι' ys hi h3⟩
theorem j6.ext{w w':World}{L L':Nat->Prop}(he:Ext w L w' L'):∀(xs:List AV) (ι ι':dZ) (c:Array Value) (o:Nat),ι.le ι'->j6 ι w L c o xs->j6 ι' w' L' c o xs
 |[],_,_,_,_,_,_=>by simp[j6]
 |x::xs,ι,ι',c,o,hi,h=>by
  simp only[j6]at h⊢;obtain⟨⟨y,h1,h2⟩,h3⟩:=h;exact⟨⟨y,h1,R.ext he x ι ι' y hi h2⟩,j6.ext he xs ι ι' c (o+1) hi h3⟩
end
section
variable{ι:dZ}{w:World}{L:Nat->Prop}
theorem Rs.length:∀{xs:List AV} {vs:List Value},Rs ι w L xs vs->vs.length=xs.length
 |[],_,h=>by simp only[Rs]at h;simp[h]
 |_::xs,_,h=>by
  simp only[Rs]at h;obtain⟨y,ys,rfl,_,h3⟩:=h;simp[Rs.length h3]
theorem Rs.get:∀{xs:List AV} {vs:List Value} (_:Rs ι w L xs vs) (i:Nat) (x:AV),xs[i]?=some x->∃v,vs[i]?=some v/\R ι w L x v
 |[],_,_,i,x,hx=>by simp at hx
 |a::xs,_,h,i,x,hx=>by
  simp only[Rs]at h;obtain⟨y,ys,rfl,h2,h3⟩:=h;cases i with
  |zero=>simp at hx;subst hx;exact⟨y,by simp,h2⟩
  |succ i=>simp at hx;simpa using Rs.get h3 i x hx
theorem Rs.jI:∀{xs:List AV} {vs:List Value},vs.length=xs.length->(∀(i:Nat) (x:AV),xs[i]?=some x->∃v,vs[i]?=some v/\R ι w L x v)->Rs ι w L xs vs
 |[],vs,hl,_=>by simp only[Rs];simpa using hl
 |a::xs,[],hl,_=>by simp at hl
 |a::xs,v::vs,hl,h=>by
  simp only[Rs];refine⟨v,vs,rfl,?_,Rs.jI (by simpa using hl) fun i x hx=>?_⟩
  ·obtain⟨u,h1,h2⟩:=h 0 a (by simp);simp at h1;subst h1;exact h2
  ·simpa using h (i+1) x (by simpa using hx)
theorem Rs.append{xs ys:List AV}{us vs:List Value}(h:Rs ι w L xs us)(k:Rs ι w L ys vs):Rs ι w L (xs++ys) (us++vs):=by
 have l1:=h.length;refine Rs.jI (by simp[l1,k.length]) fun i x hx=>?_
 rw[List.getElem?_append]at hx⊢;by_cases hi:i<xs.length
 ·rw[if_pos hi]at hx;rw[if_pos (by omega)];exact h.get i x hx
 ·rw[if_neg hi]at hx;rw[if_neg (by omega),l1];exact k.get _ x hx
theorem Rs.take{xs:List AV}{vs:List Value}(h:Rs ι w L xs vs)(n:Nat):Rs ι w L (xs.take n) (vs.take n):=by
 refine Rs.jI (by simp[h.length]) fun i x hx=>?_
 rw[aK7]at hx⊢;split at hx
 ·rename_i hi;rw[if_pos hi];exact h.get i x hx
 ·cases hx
theorem Rs.drop{xs:List AV}{vs:List Value}(h:Rs ι w L xs vs)(n:Nat):Rs ι w L (xs.drop n) (vs.drop n):=by
 refine Rs.jI (by simp[h.length]) fun i x hx=>?_
 rw[aK8]at hx⊢;exact h.get _ x hx
theorem Rs.set{xs:List AV}{vs:List Value}(h:Rs ι w L xs vs)(n:Nat){x:AV}{v:Value}(hx:R ι w L x v):Rs ι w L (xs.set n x) (vs.set n v):=by
 refine Rs.jI (by simp[h.length]) fun i y hy=>?_
 rw[List.getElem?_set]at hy⊢;split at hy
 ·rename_i hni;subst hni;split at hy
  ·rename_i gO;simp at hy;subst hy
   exact⟨v,by simp[h.length,gO],hx⟩
  ·cases hy
 ·rename_i hni;rw[if_neg hni];exact h.get i y hy
theorem Rs.getD{xs:List AV}{vs:List Value}(h:Rs ι w L xs vs)(i:Nat):R ι w L (xs[i]?.getD aX) (vs[i]?.getD undef):=by
 cases hx:xs[i]? with
 |some x=>obtain⟨v,h1,h2⟩:=h.get i x hx;simpa[h1]using h2
 |none=>
  have:vs[i]?=none:=by rw[List.getElem?_eq_none_iff]at hx⊢;rw[h.length];exact hx
  rw[this];simp only[Option.getD_none,aX,R];exact⟨#[],rfl,by simp[Rs]⟩
theorem j6.get{c:Array Value}:∀{xs:List AV} {o:Nat} (_:j6 ι w L c o xs) (i:Nat) (x:AV),xs[i]?=some x->∃v,c[o+i]?=some v/\R ι w L x v
 |[],_,_,i,x,hx=>by simp at hx
 |a::xs,o,h,i,x,hx=>by
  simp only[j6]at h;obtain⟨⟨y,h1,h2⟩,h3⟩:=h;cases i with
  |zero=>simp at hx;subst hx;exact⟨y,by simpa using h1,h2⟩
  |succ i=>
   simp at hx;obtain⟨v,g1,g2⟩:=j6.get h3 i x hx;exact⟨v,by rw[<-g1];congr 1;omega,g2⟩
theorem j6.jI{c:Array Value}:∀{xs:List AV} {o:Nat},(∀(i:Nat) (x:AV),xs[i]?=some x->∃v,c[o+i]?=some v/\R ι w L x v)->j6 ι w L c o xs
 |[],_,_=>by simp[j6]
 |a::xs,o,h=>by
  simp only[j6];refine⟨by simpa using h 0 a (by simp),j6.jI fun i x hx=>?_⟩;obtain⟨v,h1,h2⟩:=h (i+1) x (by simpa using hx);exact⟨v,by rw[<-h1];congr 1;omega,h2⟩
theorem j6.drop{c:Array Value}{xs:List AV}{o:Nat}(h:j6 ι w L c o xs)(n:Nat):j6 ι w L c (o+n) (xs.drop n):=
 j6.jI fun i x hx=>by
  rw[aK8]at hx;rw[show o+n+i=o+(n+i)from by omega];exact h.get _ x hx
theorem j6.take{c:Array Value}{xs:List AV}{o:Nat}(h:j6 ι w L c o xs)(n:Nat):j6 ι w L c o (xs.take n):=
 j6.jI fun i x hx=>by
  rw[aK7]at hx;split at hx
  ·exact h.get _ x hx
  ·cases hx
theorem j6.size{c:Array Value}{xs:List AV}{o:Nat}(h:j6 ι w L c o xs)(dM:xs≠[]):o+xs.length<=c.size:=by
 have hl:0<xs.length:=List.length_pos_iff.2 dM;obtain⟨v,h1,_⟩:=h.get (xs.length-1) _ (List.getElem?_eq_getElem (by omega))
 have:=(Array.getElem?_eq_some_iff.1 h1).1
 omega
theorem j6.list{c:Array Value}{xs:List AV}{o:Nat}(h:j6 ι w L c o xs):Rs ι w L xs (c.extract o (o+xs.length)).toList:=by
 by_cases dM:xs=[]
 ·subst dM;simp[Rs]
 have hs:=h.size dM;refine Rs.jI (by simp;omega) fun i x hx=>?_
 obtain⟨v,h1,h2⟩:=h.get i x hx;have hi:i<xs.length:=(List.getElem?_eq_some_iff.1 hx).1;refine⟨v,?_,h2⟩;rw[Array.getElem?_toList,Array.getElem?_extract];rw[if_pos (by omega)];exact h1
theorem Rs.at{c:Array Value}{xs:List AV}{vs:List Value}(h:Rs ι w L xs vs){o:Nat}(hc:∀(i:Nat) (v:Value),vs[i]?=some v->c[o+i]?=some v):j6 ι w L c o xs:=
 j6.jI fun i x hx=>let⟨v,h1,h2⟩:=h.get i x hx;⟨v,hc i v h1,h2⟩
end
end Dv
