/- A part of the proof that PairRefuses returns true for every input; no condition of its own. -/
import Derived.Test.YtblnjkjjedanaaaGreatDoorTaf
import Derived.Maps.RangeRun
import Derived.Lib.Bytealg
import Derived.Lib.BitFns
import Derived.Lib.Strings
import Derived.Lib.TrimByte
import Derived.Lib.SlTrimSet
import Derived.Lib.ParseIntB
import Derived.Lib.ItoaNum
import Derived.Lib.Repeat
import Derived.Lib.Join
import Derived.Test.YtblnjkjjedanaaaGreatDoorRows
import Derived.KernelRfl
import Derived.Shelf.Strings.OnBuilder
import Derived.Shelf.Strings.Trim
import Derived.Shelf.Strings.SlTrimAscii
import Derived.Shelf.Strings.Prefix
import Derived.Shelf.Strings.Repeat
import Derived.Shelf.Strings.FuncGrows
import Derived.Shelf.Small.Bits
import Derived.Shelf.Small.Wraps
import Derived.Shelf.LaysM
import Derived.Shelf.Strconv.Itoa3
import Derived.Shelf.Pu.ParseUintPublic10
import Derived.Shelf.GgClosure.StringsIndexFuncTop
import Derived.Room.Shelf.Join48
import Derived.Test.YtblnjkjjedanaaaGreatDoorProg
set_option linter.all false
set_option maxHeartbeats 100000000
set_option maxRecDepth 100000
open Bool renaming false_eq_true->aLs,and_eq_true->aMq
open Nat renaming lt_or_ge->aOz,le_max_right->aOC,le_max_left->aOD,le_refl->aLr
open List renaming range'->aOA,replicate->aK6,all_eq_true->aMa,getElem?_append_left->aOB,getElem?_eq_some_iff->aLu,getElem?_eq_none->aLB,mem_cons_of_mem->aOe
open Array renaming getElem?_eq_some_iff->aOb,getElem?_toList->aLC
open Option renaming map_some->aNj
namespace Dv
open Go Go.RowKit
section
variable{E:Env}{P:Program}{pc:Pc}{ic yc:Ic}{dr:Bool}{ts df:List AV}{H H':Hp}{aM nid':Nat}{o:Oper}{b:Nat}{ops:Array Oper}
variable{ι:dZ}{w:World}{Lo:Nat->Prop}{w0:World}{a:Act}{B:Nat}
def items(E:Env):Nat->Nat->List Oper->List Item
 |_,_,[]=>[]
 |k,aM,o::rest=>(k,aM,o)::items E (k+1) (if ck E o then aM+1 else aM) rest
def Zc:Nat->List Touch->List (Nat×Touch)
 |_,[]=>[]
 |k,t::l=>(k,t)::Zc (k+1) l
theorem ET:∀{l:List Touch} {k j:Nat} {t:Touch},(j,t)∈Zc k l->∃d,j=k+d/\l[d]?=some t
 |[],_,_,_,h=>by simp[Zc]at h
 |x::l,k,j,t,h=>by
  rcases List.mem_cons.1 h with h|h
  ·cases h;exact⟨0,rfl,rfl⟩
  ·obtain⟨d,h1,h2⟩:=ET h;exact⟨d+1,by omega,by simpa using h2⟩
theorem Ho:∀(rest:List Oper) (k aM:Nat) (ts:List AV) (H:Hp) (t:List AV) (h:Hp) (l:List Touch),tn E pc ic yc ops.toList rest aM ts H=some (t,h,l)->
  Bw E pc ic yc ops (items E k aM rest) ts H=some (t,h,Zc k l)
 |[],k,aM,ts,H,t,h,l,hr=>by
  unfold tn at hr;cases hr;rfl
 |o::rest,k,aM,ts,H,t,h,l,hr=>by
  unfold tn at hr;split at hr
  ·cases hr
  rename_i j7;split at hr
  case h_2=>cases hr
  rename_i yV e fK;split at hr
  case h_2=>cases hr
  rename_i t' h' l' wL;cases hr
  have:∃v,yV=bQ o.dst v ts/\mX E pc ic yc ops aM o ts H=some (v,e):=by
   unfold cO at fK;unfold mX;rw[if_neg j7];split at fK
   ·rename_i hw;rw[if_pos hw];split at fK
    ·rename_i v e' T9;cases fK;exact⟨v,rfl,T9⟩
    ·cases fK
   ·rename_i hw;rw[if_neg hw];cases fK;exact⟨aX,rfl,rfl⟩
  obtain⟨v,rfl,hd⟩:=this;exact Rh (it:=(k,aM,o)) hd (Ho rest (k+1) _ _ _ _ _ _ wL)
theorem Bn:∀{rest:List Oper} {k aM:Nat} {it:Item},it∈items E k aM rest->∃d,it.1=k+d/\rest[d]?=some it.2.2/\aM<=it.2.1
 |[],_,_,_,h=>by simp[items]at h
 |o::rest,k,aM,it,h=>by
  rcases List.mem_cons.1 h with h|h
  ·subst h;exact⟨0,rfl,rfl,aLr _⟩
  ·obtain⟨d,h1,h2,h3⟩:=Bn h;refine⟨d+1,by omega,by simpa using h2,?_⟩;split at h3<;>omega
theorem Hb:∀{rest:List Oper} {k aM d:Nat} {o:Oper},rest[d]?=some o->∃it,it∈items E k aM rest/\it.1=k+d
 |[],_,_,_,_,h=>by simp at h
 |x::rest,k,aM,0,o,h=>⟨_,List.mem_cons_self ..,rfl⟩
 |x::rest,k,aM,d+1,o,h=>by
  obtain⟨it,h1,h2⟩:=Hb (k:=k+1) (aM:=if ck E x then aM+1 else aM) (d:=d) (rest:=rest) (by simpa using h);exact⟨it,aOe _ h1,by omega⟩
theorem Ha:∀(rest:List Oper) (k aM:Nat),(items E k aM rest).length=rest.length
 |[],_,_=>rfl
 |_::rest,k,aM=>by simp[items,Ha rest]
theorem ED:∀(rest:List Oper) (k aM:Nat),(items E k aM rest).Pairwise (fun x y=>x.1<y.1/\P8 E x y)
 |[],_,_=>.nil
 |o::rest,k,aM=>by
  refine List.pairwise_cons.2 ⟨fun y hy=>?_,ED rest _ _⟩;obtain⟨d,h1,h2,h3⟩:=Bn hy;refine⟨by simp only;omega,fun l1 _=>?_⟩;simp only at l1⊢;rw[l1]at h3;simp only[if_true]at h3;omega
theorem af9{ps:List (Nat×Nat)}{l:List Touch}(h:ps.all (uS l)=true):TOk ps (Zc 0 l):=by
 intro j i tj ti hm hj hi;obtain⟨d,h1,h2⟩:=ET hj;obtain⟨d',h3,h4⟩:=ET hi
 have:=aMa.1 h _ hm
 unfold uS at this;simp only[Nat.zero_add]at h1 h3;rw[h1,h3,h2,h4]at this;obtain⟨r1,w1⟩:=tj;obtain⟨r2,w2⟩:=ti;simp only[aMq]at this;obtain⟨⟨a1,a2⟩,a3⟩:=this;exact⟨yG.1 a1,yG.1 a2,yG.1 a3⟩
theorem ab9(k b:Nat):(H++aK6 k dV)[b]?=H[b]?∨(H[b]?=none/\(H++aK6 k dV)[b]?=some dV):=by
 rw[List.getElem?_append]
 split
 ·exact .inl rfl
 ·rename_i hb;rw[List.getElem?_replicate]
  split
  ·exact .inr ⟨aLB (by omega),rfl⟩
  ·exact .inl (aLB (by omega)).symm
theorem wV{k b:Nat}{eP:cG}(h:(H++aK6 k dV)[b]?=some eP)(hs:eP.st≠ .dead):H[b]?=some eP:=by
 rcases ab9 (H:=H) k b with q|⟨_,q⟩
 ·rw[<-q];exact h
 ·rw[q]at h;cases h;exact absurd rfl hs
theorem E7(k:Nat):Live Lo ι (H++aK6 k dV)=Live Lo ι H:=by
 refine Live.congr fun c=>⟨?_,?_⟩
 ·rintro(h|⟨b,eP,co,h1,h2,h3⟩)
  ·exact .inl h
  ·exact .inr ⟨b,eP,co,wV h1 (by rw[h2];simp),h2,h3⟩
 ·rintro(h|⟨b,eP,co,h1,h2,h3⟩)
  ·exact .inl h
  ·refine .inr ⟨b,eP,co,?_,h2,h3⟩;rw[aOB (aLu.1 h1).1];exact h1
theorem iW.pad(S:iW E Lo w0 ι H w)(k:Nat):iW E Lo w0 ι (H++aK6 k dV) w:=by
 refine⟨S.below,S.lo,fun b p hp=>?_,?_,?_,?_,?_,?_⟩
 ·have:=S.NW b p hp
  exact⟨by simp;omega,this.2⟩
 ·intro b eP hb hd;rw[E7];exact S.obj b eP (wV hb hd) hd
 ·intro b b' eP blk' c co co' h1 h2 h3 h4 h5 h6;exact S.inj b b' eP blk' c co co' (wV h1 (by rw[h2];simp)) h2 (wV h3 (by rw[h4];simp)) h4 h5 h6
 ·rw[E7];exact S.glob
 ·intro b eP h1 h2;exact S.tP b eP (wV h1 (by rw[h2];simp)) h2
 ·intro b p hp;rw[aOB (S.NW b p hp).1];exact S.res b p hp
theorem agF(V:Valid E P)(O:za E P){rec:Cd}(kT:rL E P rec):Nc E P rec:=by
 intro id ops ts H df H' h I5 F hF B Lo w0 ι w a hB GY S Q hk;unfold zA at h;split at h
 case h_2=>cases h
 rename_i t hh l axi;split at h
 case isFalse=>cases h
 rename_i Wu;cases h;have S1:=S.Py.pad (ops.toList.countP (ck E));have D:=S1.drew (w':={w with drawn:=w.drawn+1}) rfl rfl rfl rfl;have X:Ext w (Live Lo ι H) {w with drawn:=w.drawn+1} (Live Lo ι (H++aK6 (ops.toList.countP (ck E)) dV)):=by
  have:=D.2
  rw[E7]at this⊢;exact this
 have apq:(Array.replicate ops.size false).size=ops.size:=by simp
 refine wpIn_region_any V.mixed ?_;refine Qp V (JC V O kT) (Ri V O kT) (Fo V kT) hF I5 ops.size (items E 0 H.length ops.toList) _ ts _ _ ι _ a ?_ apq (fun it hit=>?_) (fun k o xM _=>?_) (ED _ _ _) (fun k o xM hl=>?_)
  (Ho ops.toList 0 H.length _ _ _ _ _ axi) (af9 ?_) ⟨D.1,Rs.ext X _ _ _ _ (dZ.le_refl _) S.tm,S.mks.ext X rfl⟩ (hk.chain (dZ.le_refl _) X)
 ·rw[Ha];simp
 ·obtain⟨d,h1,h2,_⟩:=Bn hit;simp only[Nat.zero_add]at h1;rw[h1,<-aLC];refine⟨h2,?_⟩
  have:d<ops.size:=by
   have:=(aLu.1 h2).1
   simpa using this
  simp[this]
 ·obtain⟨it,h1,h2⟩:=Hb (E:=E) (k:=0) (aM:=H.length) (d:=k) (rest:=ops.toList) (o:=o) (by rw[aLC];exact xM);exact⟨it,h1,by omega⟩
 ·exfalso
  have:=(aOb.1 xM).1
  simp[this]at hl
 ·have:ops.toList.length=ops.size:=by simp
  rw[this]at Wu;exact Wu
theorem Qk(V:Valid E P)(O:za E P)(n:Nat):qh E P (call E n):=
 JC V O (zE V O (fun rec h=>agF V O h) n).1
end
def OI:TypeDesc->Bool
 |.struct _|.array .. =>true
 |_=>false
def OJ:Value->Bool
 |.agg _=>true
 |_=>false
def zeroOf(isA:Bool)(size:Nat)(z:Value):Option (List AV):=
 match dh (CE 19) z.cells.toList with
 |some cs=>if cs.length==size&&OJ z==isA then some cs else none
 |none=>none
def YO(P:Program)(t:Nat):Option yT:=
 match P.info? t,P.underlying t with
 |some i,some u=>
  if OI u||i.size==1 then
   some {cS:=u,isAgg:=OI u,size:=i.size,bytes:=i.bytes,zero:=i.zero.bind (zeroOf (OI u) i.size),eQ:=!P.stoodInHeld t&&!P.eqGuardType P.depth t}
  else none
 |_,_=>none
theorem adn{E:Env}{P:Program}{t:Nat}{i:yT}(h:YO P t=some i):ak8 E P t i:=by
 unfold YO at h;split at h
 case h_2=>cases h
 rename_i ti u h1 h2;split at h
 case isFalse=>cases h
 rename_i hc;cases h;refine⟨h2,?_,⟨ti,h1,rfl,rfl,fun cs tg=>?_⟩,?_,?_⟩
 ·cases u<;>rfl
 ·simp only[Option.bind_eq_some_iff]at tg;obtain⟨z,g1,g2⟩:=tg;refine⟨z,g1,?_⟩;unfold zeroOf at g2;split at g2
  case h_2=>cases g2
  rename_i tL hm;split at g2
  case isFalse=>cases g2
  rename_i hc';cases g2;simp only[aMq,beq_iff_eq]at hc';refine⟨hm,hc'.1,fun ha=>?_,fun ha=>?_⟩
  ·simp only at ha
   have:=hc'.2.trans ha
   cases z<;>simp[OJ]at this
   exact⟨_,rfl⟩
  ·simp only at ha
   have:=hc'.2.trans ha
   cases z<;>simp[OJ]at this<;>rfl
 ·intro ha;simp only at ha⊢;simpa[ha]using hc
 ·intro he;simpa using he
def aaC(P:Program)(imp eX skip:List Nat)(f:Nat):Option FnI:=
 if skip.contains f then none else match P.funcs[f]? with
 |some fn=>match fn.body with
  |some c=>some {code:=c,ntmps:=fn.ntmps,results:=fn.results.toList,pure:=!imp.contains f,eX:=eX.contains f}
  |none=>none
 |none=>none
def Vr(E:Env)(P:Program):Bool:=
 P.funcs.all (fun fn=>fn.name != "runtime.NumGoroutine")&&P.follows .mixedOrders&&
 (List.range P.funcs.size).all fun f=>match E.fn f with
  |some fi=>codeOk E fi.code
  |none=>true
theorem YT{E:Env}{P:Program}{imp eX skip:List Nat}(ht:E.ty=YO P)(hf:E.fn=aaC P imp eX skip)(h:Vr E P=true):Valid E P:=by
 unfold Vr at h;simp only[aMq]at h;obtain⟨⟨h1,h2⟩,h3⟩:=h;refine⟨fun t i Sk=>adn (by rw[<-ht];exact Sk),fun f fi oJ=>?_,h2⟩;have awT:=oJ;rw[hf]at oJ;unfold aaC at oJ;split at oJ
 ·cases oJ
 split at oJ
 case h_2=>cases oJ
 rename_i fn jj;split at oJ
 case h_2=>cases oJ
 rename_i c hc;cases oJ;refine⟨fn,jj,hc,rfl,rfl,?_,?_⟩
 ·have:=(Array.all_eq_true_iff_forall_mem.1 h1) fn (Array.mem_of_getElem? jj)
  simpa using this
 ·have gO:=(aOb.1 jj).1
  have:=aMa.1 h3 f (List.mem_range.2 gO)
  rw[awT]at this;exact this
def s7(E:Env)(f:Nat):Bool:=match E.fn f with
 |some fi=>codeOk E fi.code
 |none=>true
theorem Cx{E:Env}{P:Program}{imp eX skip:List Nat}(ht:E.ty=YO P)(hf:E.fn=aaC P imp eX skip)(h1:P.funcs.all (fun fn=>fn.name != "runtime.NumGoroutine")=true)
  (h2:P.follows .mixedOrders=true) (h3:∀f,f<P.funcs.size->s7 E f=true):Valid E P:=by
 refine YT ht hf ?_;unfold Vr;simp only[h1,h2,Bool.true_and];exact aMa.2 fun f hf=>h3 f (List.mem_range.1 hf)
theorem fW{p:Nat->Bool}{s n f:Nat}(h:(aOA s n).all p=true)(h1:s<=f)(h2:f<s+n):p f=true:=aMa.1 h f (List.mem_range'_1.2 ⟨h1,h2⟩)
noncomputable section
def agm:IntKind->IntKind->Bool
 |.i8,.i8|.i16,.i16|.i32,.i32|.i64,.i64|.u8,.u8|.u16,.u16|.u32,.u32|.u64,.u64=>true
 |a,b=>decide (a=b)
theorem ZO{a b:IntKind}(h:agm a b=true):a=b:=by
 unfold agm at h;split at h<;>first|rfl|simpa using h
mutual
def qi:AV->AV->Bool
 |.int k n,.int j m=>n==m&&agm k j
 |.bool a,.bool b=>a==b
 |.str a,.str b=>a==b
 |.jH,.jH=>true
 |.eU a i,.eU b j=>i==j&&zm a b
 |.rX a i,.rX b j=>a==b&&i==j
 |.aH,.aH=>true
 |.ef,.ef=>true
 |.aJ a i,.aJ b j=>i==j&&zm a b
 |.jW,.jW=>true
 |.xk a c,.xk b d=>zm a b&&zm c d
 |.jl,.jl=>true
 |.func f a c,.func g b d=>f==g&&zm a b&&zm c d
 |.nilIface,.nilIface=>true
 |.iface t a,.iface u b=>t==u&&qi a b
 |.agg a,.agg b=>zm a b
 |.tuple a,.tuple b=>zm a b
 |_,_=>false
def zm:List AV->List AV->Bool
 |[],[]=>true
 |a::a_,b::bs=>qi a b&&zm a_ bs
 |_,_=>false
end
mutual
theorem Iy:∀(a b:AV),qi a b=true->a=b
 |.int k n,b,h=>by
  cases b<;>simp only[qi,aLs,aMq,beq_iff_eq]at h
  rw[h.1,ZO h.2]
 |.bool a,b,h=>by cases b<;>simp only[qi,aLs,beq_iff_eq]at h;rw[h]
 |.str a,b,h=>by cases b<;>simp only[qi,aLs,beq_iff_eq]at h;rw[h]
 |.jH,b,h=>by cases b<;>simp only[qi,aLs]at h;rfl
 |.b6 ..,b,h=>by cases b<;>simp[qi]at h
 |.eU a i,b,h=>by
  cases b<;>simp only[qi,aLs,aMq,beq_iff_eq]at h
  rw[h.1,pe _ _ h.2]
 |.rX a i,b,h=>by
  cases b<;>simp only[qi,aLs,aMq,beq_iff_eq]at h
  rw[h.1,h.2]
 |.aH,b,h=>by cases b<;>simp only[qi,aLs]at h;rfl
 |.ef,b,h=>by cases b<;>simp only[qi,aLs]at h;rfl
 |.aI ..,b,h=>by cases b<;>simp[qi]at h
 |.aJ a i,b,h=>by
  cases b<;>simp only[qi,aLs,aMq,beq_iff_eq]at h
  rw[h.1,pe _ _ h.2]
 |.jW,b,h=>by cases b<;>simp only[qi,aLs]at h;rfl
 |.iL _,b,h=>by cases b<;>simp[qi]at h
 |.xk a c,b,h=>by
  cases b<;>simp only[qi,aLs,aMq]at h
  rw[pe _ _ h.1,pe _ _ h.2]
 |.jl,b,h=>by cases b<;>simp only[qi,aLs]at h;rfl
 |.func f a c,b,h=>by
  cases b<;>simp only[qi,aLs,aMq,beq_iff_eq]at h
  rw[h.1.1,pe _ _ h.1.2,pe _ _ h.2]
 |.nilIface,b,h=>by cases b<;>simp only[qi,aLs]at h;rfl
 |.iface t a,b,h=>by
  cases b<;>simp only[qi,aLs,aMq,beq_iff_eq]at h
  rw[h.1,Iy _ _ h.2]
 |.agg a,b,h=>by
  cases b<;>simp only[qi,aLs]at h
  rw[pe _ _ h]
 |.tuple a,b,h=>by
  cases b<;>simp only[qi,aLs]at h
  rw[pe _ _ h]
 |.yield l,b,h=>by cases b<;>simp[qi]at h
theorem pe:∀(a b:List AV),zm a b=true->a=b
 |[],b,h=>by cases b<;>simp[zm]at h;rfl
 |x::xs,b,h=>by
  cases b with
  |nil=>simp[zm]at h
  |cons y ys=>
   simp only[zm,aMq]at h;rw[Iy _ _ h.1,pe _ _ h.2]
end
abbrev vQ:=List (List AV×AV)
abbrev Table:=List (Nat×vQ)
def Qw:vQ->List AV->Option AV
 |[],_=>none
 |(a_,r)::K,args=>if zm a_ args then some r else Qw K args
def U3(E:Env)(n:Nat)(f:Nat)(K:vQ):Bool:=K.all fun e=>match call E n f e.1 with
 |some v=>qi v e.2
 |none=>false
theorem GV:∀{K:vQ} {args:List AV} {r:AV},Qw K args=some r->(args,r)∈K
 |[],_,_,h=>by cases h
 |(a_,r')::K,args,r,h=>by
  unfold Qw at h;split at h
  ·rename_i hb;cases h;rw[pe _ _ hb];simp
  ·exact aOe _ (GV h)
theorem jS{E:Env}(x:Nat->List AV->Option AV)(y:Nat->List AV->Hp->Option (AV×Hp)):∀c,codeOk {E with ov:=x,ud:=y} c=codeOk E c
 |.seq a b=>by simp only[codeOk,jS x y a,jS x y b]
 |.cond _ a b=>by simp only[codeOk,jS x y a,jS x y b]
 |.block _ a=>by simp only[codeOk,jS x y a]
 |.loop a=>by simp only[codeOk,jS x y a]
 |.scope a=>by simp only[codeOk,jS x y a]
 |.rangeFunc _ _ a b=>by simp only[codeOk,jS x y a,jS x y b]
 |.region id ops draw=>rfl
 |.skip=>rfl
 |.exit _=>rfl
 |.label _=>rfl
 |.goto _=>rfl
 |.ret=>rfl
 |.refuse _=>rfl
theorem Valid.ov{E:Env}{P:Program}(V:Valid E P)(x:Nat->List AV->Option AV)(y:Nat->List AV->Hp->Option (AV×Hp)):Valid {E with ov:=x,ud:=y} P:=
 ⟨fun t i h=>by
  obtain⟨h1,h2,h3,h4,h5⟩:=V.ty t i h;exact⟨h1,h2,h3,h4,h5⟩,
  fun f fi h=>by
  obtain⟨fn,h1,h2,h3,h4,h5,h6⟩:=V.fn f fi h;exact⟨fn,h1,h2,h3,h4,h5,by rw[jS];exact h6⟩,V.mixed⟩
theorem qh.glob{E E':Env}{P:Program}{pc:Pc}(h:qh E P pc)(hg:E'.glob=E.glob):qh E' P pc:=fun f a_ r hp L w vs hl hgl ha=>
 h f a_ r hp L w vs hl (fun g cs q=>hgl g cs (by rw[hg];exact q)) ha
theorem iW.env{E E':Env}{Lo:Nat->Prop}{w0:World}{ι:dZ}{H:Hp}{w:World}(hg:E'.glob=E.glob)(hc:∀c,codeOk E' c=codeOk E c)(S:iW E Lo w0 ι H w):iW E' Lo w0 ι H w:=
 ⟨S.below,S.lo,S.NW,S.obj,S.inj,fun g cs h=>S.glob g cs (by rw[<-hg];exact h),fun b eP h1 h2=>by
  have:=S.tP b eP h1 h2
  cases eP<;>simp only[cG.tP]at this⊢
  simp only[hc];exact this,S.res⟩
theorem vP.env{E E':Env}{P:Program}{ic:Ic}(h:vP E P ic)(hg:E'.glob=E.glob)(hc:∀c,codeOk E' c=codeOk E c):vP E' P ic:=fun f a_ H v H2 hp Lo w0 ι w vs S ha=>
 (h f a_ H v H2 hp Lo w0 ι w vs (S.env hg.symm (fun c=>(hc c).symm)) ha).mono fun cv w' ⟨ι',h1,h2,h3,h4⟩=>⟨ι',h1,h2.env hg hc,h3,h4⟩
end
def It(a b:Pc):Prop:=∀f a_ r,a f a_=some r->b f a_=some r
def ya(a b:Ic):Prop:=∀f a_ H r,a f a_ H=some r->b f a_ H=some r
def x9(a b:Cd):Prop:=∀c ts H r,a c ts H=some r->b c ts H=some r
theorem x9.refl(a:Cd):x9 a a:=fun _ _ _ _ h=>h
theorem x9.trans{a b c:Cd}(h:x9 a b)(k:x9 b c):x9 a c:=fun _ _ _ _ q=>k _ _ _ _ (h _ _ _ _ q)
section
variable{E:Env}{rec Gg:Cd}
theorem uV(h:x9 rec Gg):It (qc E rec) (qc E Gg):=by
 intro f a_ r hr;unfold qc at hr⊢;cases mG:E.ov f a_ with
 |some q=>simp only[mG]at hr⊢;exact hr
 |none=>
  simp only[mG]at hr⊢;cases oJ:E.fn f with
  |none=>simp only[oJ]at hr;cases hr
  |some fi=>
   simp only[oJ]at hr⊢;by_cases hd:(!(fi.pure||fi.eX))=true
   ·rw[if_pos hd]at hr;cases hr
   ·rw[if_neg hd]at hr⊢;cases kT:rec fi.code (a_++aK6 (fi.ntmps-a_.length) aX) []with
    |none=>rw[kT]at hr;cases hr
    |some x=>rw[h _ _ _ _ kT];rw[kT]at hr;exact hr
theorem Mh(h:x9 rec Gg):ya (vn E rec) (vn E Gg):=by
 intro f a_ H r hr;unfold vn at hr⊢;cases oJ:E.fn f with
 |none=>simp only[oJ]at hr;cases hr
 |some fi=>
  simp only[oJ]at hr⊢;cases kT:rec fi.code (a_++aK6 (fi.ntmps-a_.length) aX) H with
  |none=>rw[kT]at hr;cases hr
  |some x=>rw[h _ _ _ _ kT];rw[kT]at hr;exact hr
theorem qT(h:x9 rec Gg):ya (um E rec) (um E Gg):=by
 intro f a_ H r hr;unfold um at hr⊢;cases mG:E.ud f a_ H with
 |some q=>simp only[mG]at hr⊢;exact hr
 |none=>simp only[mG]at hr⊢;exact Mh h _ _ _ _ hr
theorem xX(h:x9 rec Gg):ya (yi rec) (yi Gg):=by
 intro l a_ H r hr;simp only[yi]at hr⊢;cases q0:H[l]? with
 |none=>simp only[q0]at hr;cases hr
 |some b0=>
  cases b0 with
  |cells _ _=>simp only[q0]at hr;cases hr
  |map _ _ _=>simp only[q0]at hr;cases hr
  |kF _ _=>simp only[q0]at hr;cases hr
  |loop st oq ts ps assign body=>
   cases st<;>try (simp only[q0]at hr;cases hr)
   simp only[q0]at hr⊢;cases q1:Mk ts ps a_ with
   |none=>simp only[q1]at hr;cases hr
   |some df=>
    simp only[q1]at hr⊢;cases q2:rec assign df H with
    |none=>simp only[q2]at hr;cases hr
    |some x=>
     obtain⟨ex,t1,H1⟩:=x;rw[h _ _ _ _ q2];cases ex<;>try (simp only[q2]at hr;cases hr)
     simp only[q2]at hr⊢;cases q3:H1[l]? with
     |none=>simp only[q3]at hr;cases hr
     |some b1=>
      cases b1 with
      |cells _ _=>simp only[q3]at hr;cases hr
      |map _ _ _=>simp only[q3]at hr;cases hr
      |kF _ _=>simp only[q3]at hr;cases hr
      |loop st1 aq1 yV ps1 as1 b1=>
       cases st1<;>try (simp only[q3]at hr;cases hr)
       simp only[q3]at hr⊢;cases q4:rec body t1 (H1.set l (.loop .busy aq1 yV ps1 as1 b1))with
       |none=>rw[q4]at hr;cases hr
       |some y=>rw[h _ _ _ _ q4];rw[q4]at hr;exact hr
variable{pc S4:Pc}{ic Sp yc Uh:Ic}{dr:Bool}
theorem map_le{α β:Type}{a b:Option α}{g:α->β}{r:β}(JX:∀x,a=some x->b=some x)(h:a.map g=some r):b.map g=some r:=by
 cases a with
 |none=>cases h
 |some x=>rw[JX x rfl];exact h
theorem UT(hp:It pc S4)(hi:ya ic Sp)(hy:ya yc Uh){H:Hp}{fv:AV}{args:List AV}{r}(h:oM E pc ic yc dr H fv args=some r):oM E S4 Sp Uh dr H fv args=some r:=by
 unfold oM at h⊢;cases fv with
 |func f first cap=>
  simp only at h⊢;have key:∀(c:Bool) (h:(if c=true then match bW H (first++args++cap)with
    |some (a_,bs)=>Option.map (fun v=>(v,if bJ v=true then cJ.looks bs else cJ.marks bs)) (pc f a_)
    |none=>none
   else(match ic f (first++args++cap) H with
    |some (v,h)=>if(dr&&!oO H h)=true then none else some (v,cJ.vK h)
    |none=>none))=some r),
   (if c=true then match bW H (first++args++cap)with
    |some (a_,bs)=>Option.map (fun v=>(v,if bJ v=true then cJ.looks bs else cJ.marks bs)) (S4 f a_)
    |none=>none
   else(match Sp f (first++args++cap) H with
    |some (v,h)=>if(dr&&!oO H h)=true then none else some (v,cJ.vK h)
    |none=>none))=some r:=by
   intro c h;cases c with
   |true=>
    rw[if_pos rfl]at h⊢;cases hf:bW H (first++args++cap)with
    |none=>rw[hf]at h;cases h
    |some x=>rw[hf]at h;exact map_le (fun _ q=>hp _ _ _ q) h
   |false=>
    rw[if_neg (by simp)]at h⊢;cases hf:ic f (first++args++cap) H with
    |none=>rw[hf]at h;cases h
    |some x=>rw[hf]at h;rw[hi _ _ _ _ hf];exact h
  split at h<;>exact key _ h
 |yield l=>exact map_le (fun _ q=>hy _ _ _ _ q) h
 |_=>cases h
theorem Xl(hp:It pc S4)(hi:ya ic Sp)(hy:ya yc Uh){ts:List AV}{H:Hp}{aM:Nat}{o:Oper}{r}(h:eN E pc ic yc dr ts H aM o=some r):eN E S4 Sp Uh dr ts H aM o=some r:=by
 by_cases hc:∃c f,o.op=.call c/\c.callee=.value f
 ·obtain⟨c,f,h1,h2⟩:=hc;unfold eN at h⊢;simp only[h1,h2]at h⊢;cases q1:ch ts f with
  |none=>simp only[q1]at h;cases h
  |some fv=>
   cases q2:nL ts c.args.toList with
   |none=>simp only[q1,q2]at h;cases h
   |some a_=>
    simp only[q1,q2]at h⊢;exact UT hp hi hy h
 ·rw[<-h];unfold eN
  split<;>try rfl
  rename_i c T9
  split<;>try rfl
  rename_i f pT;exact absurd ⟨c,f,T9,pT⟩ hc
theorem Aq(hp:It pc S4)(hi:ya ic Sp)(hy:ya yc Uh){ops:List Oper}{ts:List AV}{H:Hp}{aM:Nat}{o:Oper}{r}(h:cO E pc ic yc dr ops aM o ts H=some r):cO E S4 Sp Uh dr ops aM o ts H=some r:=by
 unfold cO at h⊢;by_cases hw:bU ops ts o=true
 ·rw[if_pos hw]at h⊢;cases q:eN E pc ic yc dr ts H aM o with
  |none=>rw[q]at h;cases h
  |some x=>rw[Xl hp hi hy q];rw[q]at h;exact h
 ·rw[if_neg hw]at h⊢;exact h
theorem Dh(hp:It pc S4)(hi:ya ic Sp)(hy:ya yc Uh){ops:List Oper}:∀{rest:List Oper} {ts:List AV} {H:Hp} {r},Bo E pc ic yc ops rest ts H=some r->Bo E S4 Sp Uh ops rest ts H=some r
 |[],_,_,_,h=>h
 |o::rest,ts,H,r,h=>by
  unfold Bo at h⊢;cases q:cO E pc ic yc false ops H.length o ts H with
  |none=>rw[q]at h;cases h
  |some x=>
   rw[Aq hp hi hy q];rw[q]at h;exact Dh hp hi hy h
theorem Ad(hp:It pc S4)(hi:ya ic Sp)(hy:ya yc Uh){ops:List Oper}:∀{rest:List Oper} {aM:Nat} {ts:List AV} {H:Hp} {r},tn E pc ic yc ops rest aM ts H=some r->tn E S4 Sp Uh ops rest aM ts H=some r
 |[],_,_,_,_,h=>h
 |o::rest,aM,ts,H,r,h=>by
  unfold tn at h⊢;by_cases hc:(ck E o&&!lK H[aM]?)=true
  ·rw[if_pos hc]at h;cases h
  rw[if_neg hc]at h⊢;cases q:cO E pc ic yc true ops aM o ts H with
  |none=>rw[q]at h;cases h
  |some x=>
   rw[Aq hp hi hy q];rw[q]at h;obtain⟨df,e⟩:=x;simp only at h⊢;cases q2:tn E pc ic yc ops rest (if ck E o then aM+1 else aM) df (e.app H)with
   |none=>rw[q2]at h;cases h
   |some y=>
    rw[Ad hp hi hy q2];rw[q2]at h;exact h
theorem Vk(hp:It pc S4)(hi:ya ic Sp)(hy:ya yc Uh){id:Nat}{ops:List Oper}{ts:List AV}{H:Hp}{r}(h:zA E pc ic yc id ops ts H=some r):zA E S4 Sp Uh id ops ts H=some r:=by
 unfold zA at h⊢;cases q:tn E pc ic yc ops ops H.length ts (H++aK6 (ops.countP (ck E)) dV)with
 |none=>rw[q]at h;cases h
 |some x=>rw[Ad hp hi hy q];rw[q]at h;exact h
theorem Vu(h:x9 rec Gg):x9 (dI E rec) (dI E Gg):=by
 intro c ts H r hr;have hp:=uV (E:=E) h;have hi:=qT (E:=E) h;have hy:=xX h;cases c with
 |skip=>exact hr
 |label _=>exact hr
 |region id ops draw=>
  cases draw with
  |true=>
   simp only[dI,if_true]at hr⊢;exact map_le (fun _ q=>Vk hp hi hy q) hr
  |false=>
   simp only[dI,aLs,if_false]at hr⊢;exact map_le (fun _ q=>Dh hp hi hy q) hr
 |seq a b=>
  simp only[dI]at hr⊢;cases q:rec a ts H with
  |none=>rw[q]at hr;cases hr
  |some x=>
   rw[h _ _ _ _ q];rw[q]at hr;obtain⟨ex,t,H'⟩:=x;cases ex with
   |normal=>exact h _ _ _ _ hr
   |exit _=>exact hr
   |ret=>exact hr
 |cond c a b=>
  simp only[dI]at hr⊢;cases q:ch ts c with
  |none=>rw[q]at hr;cases hr
  |some v=>
   rw[q]at hr;cases v<;>try (cases hr)
   simp only at hr⊢;exact h _ _ _ _ hr
 |block id body=>
  simp only[dI]at hr⊢;cases q:rec body ts H with
  |none=>rw[q]at hr;cases hr
  |some x=>rw[h _ _ _ _ q];rw[q]at hr;exact hr
 |loop body=>
  simp only[dI]at hr⊢;cases q:rec body ts H with
  |none=>rw[q]at hr;cases hr
  |some x=>
   rw[h _ _ _ _ q];rw[q]at hr;obtain⟨ex,t,H'⟩:=x;cases ex with
   |normal=>exact h _ _ _ _ hr
   |exit _=>exact hr
   |ret=>exact hr
 |exit id=>exact hr
 |ret=>exact hr
 |rangeFunc g ps assign body=>
  simp only[dI]at hr⊢;cases q:ch ts g with
  |none=>rw[q]at hr;cases hr
  |some v=>
   rw[q]at hr;cases v<;>try (cases hr)
   rename_i f first cap
   simp only at hr⊢;cases q1:vn E rec f (first++[.yield H.length]++cap) (H++[.loop .ready none ts ps.toList assign body])with
   |none=>rw[q1]at hr;cases hr
   |some x=>
    rw[Mh h _ _ _ _ q1];rw[q1]at hr;obtain⟨v,H2⟩:=x;simp only at hr⊢;cases q2:H2[H.length]? with
    |none=>rw[q2]at hr;cases hr
    |some b=>
     rw[q2]at hr;cases b with
     |cells _ _=>cases hr
     |map _ _ _=>cases hr
     |kF _ _=>cases hr
     |loop st oq Na M9 MU b3=>
      simp only at hr⊢;by_cases hb:st=.busy
      ·rw[if_pos hb]at hr;cases hr
      ·rw[if_neg hb]at hr⊢;cases oq with
       |none=>exact hr
       |some c=>exact h _ _ _ _ hr
 |goto _=>cases hr
 |scope _=>cases hr
 |refuse _=>cases hr
theorem GS:∀n,x9 (dJ E n) (dJ E (n+1))
 |0=>fun _ _ _ _ h=>by cases h
 |n+1=>by
  show x9 (dI E (dJ E n)) (dI E (dJ E (n+1)))
  exact Vu (GS n)
theorem jd{n m:Nat}(h:n<=m):x9 (dJ E n) (dJ E m):=by
 induction h with
 |refl=>exact x9.refl _
 |step _ ih=>exact ih.trans (GS _)
theorem qM{n m:Nat}(h:n<=m):It (call E n) (call E m):=uV (jd h)
end
def Cv(E:Env)(c:Code)(ts:List AV)(H:Hp)(Q:Ex->List AV->Hp->Prop):Prop:=∃n ex df H',dJ E n c ts H=some (ex,df,H')/\Q ex df H'
def Fn(E:Env)(f:Nat)(args:List AV)(Q:AV->Prop):Prop:=∃n r,call E n f args=some r/\Q r
def Fi(E:Env)(f:Nat)(args:List AV)(H:Hp)(Q:AV->Hp->Prop):Prop:=∃n r H',um E (dJ E n) f args H=some (r,H')/\Q r H'
def J9(E:Env)(ops rest:List Oper)(ts:List AV)(H:Hp)(Q:List AV->Hp->Prop):Prop:=
 ∃n df H',Bo E (qc E (dJ E n)) (um E (dJ E n)) (yi (dJ E n)) ops rest ts H=some (df,H')/\Q df H'
section
variable{E:Env}{ts:List AV}{H:Hp}{Q:Ex->List AV->Hp->Prop}
theorem Cv.mono{c:Code}{Q':Ex->List AV->Hp->Prop}(h:Cv E c ts H Q)(hq:∀ex df H',Q ex df H'->Q' ex df H'):Cv E c ts H Q':=by obtain⟨n,ex,df,H',h1,h2⟩:=h;exact⟨n,ex,df,H',h1,hq _ _ _ h2⟩
theorem Fn.mono{f:Nat}{args:List AV}{Q Q':AV->Prop}(h:Fn E f args Q)(hq:∀r,Q r->Q' r):Fn E f args Q':=by obtain⟨n,r,h1,h2⟩:=h;exact⟨n,r,h1,hq _ h2⟩
theorem Cv.skip(h:Q .normal ts H):Cv E .skip ts H Q:=⟨1,_,_,_,rfl,h⟩
theorem Cv.label{l}(h:Q .normal ts H):Cv E (.label l) ts H Q:=⟨1,_,_,_,rfl,h⟩
theorem Cv.exit{id:Nat}(h:Q (.exit id) ts H):Cv E (.exit id) ts H Q:=⟨1,_,_,_,rfl,h⟩
theorem Cv.ret(h:Q .ret ts H):Cv E .ret ts H Q:=⟨1,_,_,_,rfl,h⟩
theorem Cv.seq{a b:Code}(h:Cv E a ts H fun ex df H'=>match ex with|.normal=>Cv E b df H' Q|e=>Q e df H'):Cv E (.seq a b) ts H Q:=by
 obtain⟨n,ex,df,H',h1,h2⟩:=h;cases ex with
 |normal=>
  obtain⟨m,ex2,JO,H2,k1,k2⟩:=h2;refine⟨max n m+1,ex2,JO,H2,?_,k2⟩;show dI E (dJ E (max n m)) (.seq a b) ts H=_
  unfold dI;simp only[jd (aOD n m) _ _ _ _ h1];exact jd (aOC n m) _ _ _ _ k1
 |exit id=>
  refine⟨n+1,_,_,_,?_,h2⟩;show dI E (dJ E n) (.seq a b) ts H=_
  unfold dI;simp only[h1]
 |ret=>
  refine⟨n+1,_,_,_,?_,h2⟩;show dI E (dJ E n) (.seq a b) ts H=_
  unfold dI;simp only[h1]
theorem Cv.cond{c:Operand}{a b:Code}{t:Bool}(hc:ch ts c=some (.bool t))(h:Cv E (if t then a else b) ts H Q):Cv E (.cond c a b) ts H Q:=by
 obtain⟨n,ex,df,H',h1,h2⟩:=h;refine⟨n+1,ex,df,H',?_,h2⟩;show dI E (dJ E n) (.cond c a b) ts H=_
 unfold dI;simp only[hc];exact h1
theorem Cv.block{id:Nat}{c:Code}(h:Cv E c ts H fun ex df H'=>match ex with|.exit CN=>if CN=id then Q .normal df H' else Q (.exit CN) df H'|e=>Q e df H'):Cv E (.block id c) ts H Q:=by
 obtain⟨n,ex,df,H',h1,h2⟩:=h;cases ex with
 |normal=>
  refine⟨n+1,_,_,_,?_,h2⟩;show dI E (dJ E n) (.block id c) ts H=_
  unfold dI;simp only[h1]
 |ret=>
  refine⟨n+1,_,_,_,?_,h2⟩;show dI E (dJ E n) (.block id c) ts H=_
  unfold dI;simp only[h1]
 |exit CN=>
  simp only at h2;by_cases he:CN=id
  ·rw[if_pos he]at h2;refine⟨n+1,_,_,_,?_,h2⟩;show dI E (dJ E n) (.block id c) ts H=_
   unfold dI;simp only[h1,if_pos he]
  ·rw[if_neg he]at h2;refine⟨n+1,_,_,_,?_,h2⟩;show dI E (dJ E n) (.block id c) ts H=_
   unfold dI;simp only[h1,if_neg he]
theorem Cv.loop{body:Code}(I:Nat->List AV->Hp->Prop)(K7:∀k ts H,I k ts H->Cv E body ts H fun ex df H'=>match ex with
  |.normal=>∃k',k'<k/\I k' df H'
  |e=>Q e df H'):∀(k:Nat) (ts:List AV) (H:Hp),I k ts H->Cv E (.loop body) ts H Q:=by
 intro k;induction k using Nat.strongRecOn with
 |_ k ih=>
  intro ts H hI;obtain⟨n,ex,df,H',h1,h2⟩:=K7 k ts H hI;cases ex with
  |normal=>
   obtain⟨k',hk,hI'⟩:=h2;obtain⟨m,ex2,JO,H2,k1,k2⟩:=ih k' hk df H' hI';refine⟨max n m+1,ex2,JO,H2,?_,k2⟩;show dI E (dJ E (max n m)) (.loop body) ts H=_
   unfold dI;simp only[jd (aOD n m) _ _ _ _ h1];exact jd (aOC n m) _ _ _ _ k1
  |ret=>
   refine⟨n+1,_,_,_,?_,h2⟩;show dI E (dJ E n) (.loop body) ts H=_
   unfold dI;simp only[h1]
  |exit id=>
   refine⟨n+1,_,_,_,?_,h2⟩;show dI E (dJ E n) (.loop body) ts H=_
   unfold dI;simp only[h1]
theorem Cv.round{body:Code}(h:Cv E body ts H fun ex df H'=>match ex with|.normal=>Cv E (.loop body) df H' Q|e=>Q e df H'):Cv E (.loop body) ts H Q:=by
 obtain⟨n,ex,df,H',h1,h2⟩:=h;cases ex with
 |normal=>
  obtain⟨m,ex2,JO,H2,k1,k2⟩:=h2;refine⟨max n m+1,ex2,JO,H2,?_,k2⟩;show dI E (dJ E (max n m)) (.loop body) ts H=_
  unfold dI;simp only[jd (aOD n m) _ _ _ _ h1];exact jd (aOC n m) _ _ _ _ k1
 |ret=>
  refine⟨n+1,_,_,_,?_,h2⟩;show dI E (dJ E n) (.loop body) ts H=_
  unfold dI;simp only[h1]
 |exit id=>
  refine⟨n+1,_,_,_,?_,h2⟩;show dI E (dJ E n) (.loop body) ts H=_
  unfold dI;simp only[h1]
theorem Cv.region{id:Nat}{ops:Array Oper}(h:J9 E ops.toList ops.toList ts H (Q .normal)):Cv E (.region id ops false) ts H Q:=by
 obtain⟨n,df,H',h1,h2⟩:=h;refine⟨n+1,_,_,_,?_,h2⟩;show dI E (dJ E n) (.region id ops false) ts H=_
 unfold dI;simp only[h1,aLs,if_false,aNj]
variable{ops rest:List Oper}{q:List AV->Hp->Prop}
theorem J9.nil(h:q ts H):J9 E ops [] ts H q:=⟨0,_,_,rfl,h⟩
theorem J9.step{o:Oper}{yV:List AV}{e:cJ}(h1:cO E (fun _ _=>none) (fun _ _ _=>none) (fun _ _ _=>none) false ops H.length o ts H=some (yV,e))(h:J9 E ops rest yV (e.app H) q):J9 E ops (o::rest) ts H q:=by obtain⟨n,df,H',k1,k2⟩:=h;refine⟨n,df,H',?_,k2⟩;unfold Bo;rw[Aq (fun _ _ _ h=>by cases h) (fun _ _ _ _ h=>by cases h) (fun _ _ _ _ h=>by cases h) h1];exact k1
end
noncomputable section
def ZI(E:Env)(P:Program)(c:Code)(ts:List AV)(H:Hp)(Q:Ex->List AV->Hp->Prop):Prop:=
 ∀(F:Fence),mD F->∀(B:Nat) (Lo:Nat->Prop) (w0:World) (ι:dZ) (w:World) (a:Act),w0.heap.size<=B->B<=w.heap.size->St E B Lo w0 ι H ts a w->
  ∀K:Exit->Act->World->Prop,(∀ex df H',Q ex df H'->CC E B Lo w0 ι H w df H' (K ex.up))->c.wpIn F 0 P K a w
section
variable{E:Env}{P:Program}{ts:List AV}{H:Hp}{Q:Ex->List AV->Hp->Prop}
theorem ZI.mono{c:Code}{Q':Ex->List AV->Hp->Prop}(h:ZI E P c ts H Q)(hq:∀ex df H',Q ex df H'->Q' ex df H'):ZI E P c ts H Q':=by
 intro F hF B Lo w0 ι w a hB GY S K hK;exact h F hF B Lo w0 ι w a hB GY S K fun ex df H' q=>hK ex df H' (hq _ _ _ q)
theorem ZI.seq{c d:Code}(h:ZI E P c ts H fun ex df H'=>match ex with|.normal=>ZI E P d df H' Q|e=>Q e df H'):ZI E P (.seq c d) ts H Q:=by
 intro F hF B Lo w0 ι w a hB GY S K hK;refine wpIn_seq (h F hF B Lo w0 ι w a hB GY S _ fun ex df H' q a1 w1 ι1 k1 k2 k3=>?_);cases ex with
 |normal=>exact q F hF B Lo w0 ι1 w1 a1 hB (Nat.le_trans GY k2.size) k3 K fun ex2 JO H2 q2=>(hK ex2 JO H2 q2).chain k1 k2
 |exit id=>exact hK _ _ _ q _ _ _ k1 k2 k3
 |ret=>exact hK _ _ _ q _ _ _ k1 k2 k3
theorem ZI.pure(V:Valid E P){f:Nat}{fi:FnI}(oJ:E.fn f=some fi){args:List AV}{r:AV}
  (h:ZI E P fi.code (args++aK6 (fi.ntmps-args.length) aX) [] fun ex JO H2=>(∀id,ex≠ .exit id)/\∃rs bs,iU H2 E JO fi.results=some rs/\bW H2 [kE rs]=some ([r],bs))
  {L:Nat->Prop} {w:World} {vs:Array Value} (jN:∀c,L c->c<w.heap.size) (hg:tF E L w) (ha:Rs cE w L args vs.toList):
  pM P ((callFunc f vs).run P w) (fun v w'=>Below w.heap.size w w'/\R cE w' L r v):=by
 refine .inr (.inl ⟨f,vs,w,n7 V oJ vs w,?_⟩);obtain⟨fn,f1,f2,f3,f4,f5,f6⟩:=V.fn f fi oJ;have hL:Live L cE ([]:Hp)=L:=by
  funext c;refine propext ⟨?_,.inl⟩;rintro(h|⟨b,eP,co,h,_⟩)
  ·exact h
  ·simp at h
 have S:iW E L w cE [] w:=by
  refine⟨Below.refl _ _,jN,?_,?_,?_,?_,?_,?_⟩
  ·intro b p h;cases h
  ·intro b eP h;simp at h
  ·intro b b' eP blk' c co co' h;simp at h
  ·rw[hL];exact hg
  ·intro b eP h;simp at h
  ·intro b p h;cases h
 refine callsIn_of_wp_marks f1 f2 trivial ?_;have hl:=ha.length;simp only[Array.length_toList]at hl;refine h Fence.wide (.inl rfl) w.heap.size L w cE w _ (aLr _) (aLr _) ⟨S,?_,⟨[],by simp,rfl,by simp⟩⟩ _ fun ex JO H2 hq a' w' ι' k1 k2 k3=>?_
 ·simp only[Array.toList_append,Array.toList_replicate];rw[f3,<-hl,hL];exact ha.append (uA _)
 ·obtain⟨hex,rs,bs,j7,gf⟩:=hq;obtain⟨ks,n1,n2,n3⟩:=k3.mks;have oa:LeavesInM Fence.wide 0 P fn a'.tmps (MT fun v w'=>Below w.heap.size w w'/\R cE w' L r v) a'.defers .returning w':=by
   rw[n2];refine qQ V (by rw[f4];exact j7) ks w' k3.Py k3.tm n1 n3 (aLr _) fun w2 cv b1 b2 b3 b4 b5=>?_
   refine⟨b2.below,?_⟩;have sH:Rs ι' w2 (Live L ι' H2) [kE rs] [cv]:=by simp only[Rs];exact⟨_,_,rfl,b5,rfl⟩
   have:=s8 b2 sH gf
   simp only[Rs]at this;obtain⟨y,ys,q1,q2,_⟩:=this;cases q1;exact R.ext (wh fun c hc=>.inl hc) _ _ _ _ (dZ.le_refl _) q2
  cases ex with
  |normal=>exact oa
  |ret=>exact oa
  |exit id=>exact absurd rfl (hex id)
structure Iter(w:World)(L:Nat->Prop)(r bm since:Nat)(es:Array MapEntry)(clock:Nat)(is:List Nat):Prop where
 it:w.heap[r]?=some (.mapIter (some bm) since (is.map fun i=>((es[i]?).map (·.born)).getD 0).toArray clock)
 mp:w.heap[bm]?=some (.map es clock)
 nr:¬L r
 nm:¬L bm
theorem Iter.ext{w w':World}{L L':Nat->Prop}{r bm since:Nat}{es:Array MapEntry}{clock:Nat}{is:List Nat}(h:Iter w L r bm since es clock is)(X:Ext w L w' L'):Iter w' L' r bm since es clock is:=
 ⟨(X.keep h.it h.nr).1,(X.keep h.mp h.nm).1,(X.keep h.it h.nr).2,(X.keep h.mp h.nm).2⟩
end
end
def gt(ts:List AV)(i:Nat):AV:=ts[i]?.getD aX
theorem bO{ts:List AV}{i:Nat}{v:AV}(h:i<ts.length):gt (ts.set i v) i=v:=by unfold gt;rw[List.getElem?_set_self h];rfl
theorem dG{ts:List AV}{i j:Nat}{v:AV}(h:i≠j):gt (ts.set i v) j=gt ts j:=by unfold gt;rw[List.getElem?_set_ne h]
section
variable{E:Env}{pc:Pc}{ic yc:Ic}{dr:Bool}{ops:List Oper}{aM:Nat}{ts:List AV}{H:Hp}
theorem cT{i:Nat}:ch ts (.tmp i)=some (gt ts i):=rfl
theorem ec{k:IntKind}{n:Int}:ch ts (.const (.int k n))=some (.int k n):=rfl
theorem D7{b:Bool}:ch ts (.const (.bool b))=some (.bool b):=rfl
theorem oT{f:Nat}:ch ts (.func f)=some (.func f [] []):=rfl
theorem Vs{g:Nat}:ch ts (.global g)=some (.rX g 0):=rfl
theorem tO:ch ts (.const (.slice none 0 0))=some .aH:=rfl
theorem eS:nL ts []=some []:=rfl
variable{d:Nat}{t:Nat}{p:String}{af:Array Edge}
theorem ac8{x:Operand}{v:AV}(h:ch ts x=some v):cO E pc ic yc dr ops aM ⟨some d,.move x,t,p,af,none⟩ ts H=some (ts.set d v,.bM []):=by simp[cO,bU,eN,h,bQ]
theorem Tr{x:Operand}{v:AV}(h:ch ts x=some v):cO E pc ic yc dr ops aM ⟨some d,.assign x,t,p,af,none⟩ ts H=some (ts.set d v,.bM []):=by simp[cO,bU,eN,h,bQ]
theorem ac9{c a b:Operand}{q:Bool}{v:AV}(hc:ch ts c=some (.bool q))(h:ch ts (if q then a else b)=some v):cO E pc ic yc dr ops aM ⟨some d,.pick c a b,t,p,af,none⟩ ts H=some (ts.set d v,.bM []):=by
 simp only[cO,bU,eN,hc,bQ,if_true];cases q<;>simp_all
theorem Ye{op:BinOp}{t1 t2:Nat}{x y:Operand}{u v r:AV}(hx:ch ts x=some u)(hy:ch ts y=some v)(h:dy E (bK x||bK y) op t1 u v=some r):
  cO E pc ic yc dr ops aM ⟨some d,.binOp op t1 x y t2,t,p,af,none⟩ ts H=some (ts.set d r,.bM []):=by
 simp[cO,bU,eN,hx,hy,h,bQ]
theorem JH{t1:Nat}{x y:Operand}{u v r:AV}(hx:ch ts x=some u)(hy:ch ts y=some v)(h:cI E t1 u v=some r):
  cO E pc ic yc dr ops aM ⟨some d,.indexAddr t1 x y,t,p,af,none⟩ ts H=some (ts.set d r,.bM []):=by
 simp[cO,bU,eN,hx,hy,h,bQ]
theorem ac7{t1:Nat}{x:Operand}{u r:AV}(hx:ch ts x=some u)(h:gl E H t1 u=some r):
  cO E pc ic yc dr ops aM ⟨some d,.load t1 x,t,p,af,none⟩ ts H=some (ts.set d r,.bM []):=by
 simp[cO,bU,eN,hx,h,bQ]
theorem Yf{t1:Nat}{x y:Operand}{u v:AV}{l:List (Nat×cG)}(hx:ch ts x=some u)(hy:ch ts y=some v)(h:iC E H t1 u v=some l):
  cO E pc ic yc dr ops aM ⟨none,.store t1 x y,t,p,af,none⟩ ts H=some (ts,.bM l):=by
 simp[cO,bU,eN,hx,hy,h,bQ]
theorem Yd{t1:Nat}{z:AV}(h:gX E t1=some z):
  cO E pc ic yc dr ops aM ⟨some d,.alloc t1,t,p,af,none⟩ ts H=some (ts.set d (.b6 aM 0),.bM [(aM,.cells .live z.cells)]):=by
 simp[cO,bU,eN,h,bQ]
theorem PI{bi:Builtin}{args:Array Operand}{eg:Array Nat}{al:List AV}{r:AV}{l:List (Nat×cG)}(ha:nL ts args.toList=some al)(h:aZ E H aM bi eg.toList al=some (r,l)):
  cO E pc ic yc dr ops aM ⟨some d,.call {callee:=.builtin bi,args:=args,argTypes:=eg},t,p,af,none⟩ ts H=some (ts.set d r,.bM l):=by
 simp[cO,bU,eN,ha,h,bQ]
end
section
variable{E:Env}{ops:List Oper}{rest:List Oper}{ts:List AV}{H:Hp}{q:List AV->Hp->Prop}{aM:Nat}
theorem QW(pc:Pc):It (fun _ _=>none) pc:=fun _ _ _ h=>by cases h
theorem Df(ic:Ic):ya (fun _ _ _=>none) ic:=fun _ _ _ _ h=>by cases h
def qI(E:Env)(ops rest:List Oper)(aM:Nat)(ts:List AV)(H:Hp)(Q:List AV->Hp->List (List Nat×List Nat)->Prop):Prop:=
 ∃n df H' l,tn E (qc E (dJ E n)) (um E (dJ E n)) (yi (dJ E n)) ops rest aM ts H=some (df,H',l)/\Q df H' l
variable{Q:List AV->Hp->List (List Nat×List Nat)->Prop}
theorem qI.nil(h:Q ts H []):qI E ops [] aM ts H Q:=⟨0,_,_,_,rfl,h⟩
theorem qI.step{o:Oper}{yV:List AV}{e:cJ}(hl:ck E o=false)(h1:cO E (fun _ _=>none) (fun _ _ _=>none) (fun _ _ _=>none) true ops aM o ts H=some (yV,e))
  (h:qI E ops rest aM yV (e.app H) fun df H' l=>Q df H' (bI E ts o e::l)):qI E ops (o::rest) aM ts H Q:=by
 obtain⟨n,df,H',l,k1,k2⟩:=h;refine⟨n,df,H',_,?_,k2⟩;unfold tn;rw[hl];simp only[Bool.false_and,aLs,if_false];rw[Aq (QW _) (Df _) (Df _) h1];simp only[k1]
theorem Cv.Rd{id:Nat}{ops:Array Oper}{Q:Ex->List AV->Hp->Prop}(hz:ops.toList.countP (ck E)=0)
  (h:qI E ops.toList ops.toList H.length ts H fun df H' l=>(E.pairs id ops.toList.length).all (uS l)=true/\Q .normal df H'):Cv E (.region id ops true) ts H Q:=by
 obtain⟨n,df,H',l,h1,h2,h3⟩:=h;refine⟨n+1,_,_,_,?_,h3⟩;show dI E (dJ E n) (.region id ops true) ts H=_
 unfold dI zA;simp only[if_true,hz,List.replicate_zero,List.append_nil,h1,h2,aNj]
theorem zk{H:Hp}{aM t e n b off len kc:Nat}{i ei:yT}{x:AV}{xs cs:List AV}(hS:E.ty t=some i)(hu:i.cS=.slice e)(hE:E.ty e=some ei)(hl:pV x=some n)(hs:sJ H ei.size x=some xs)(hn:0<n)
  (h0:ei.size≠0) (ho:xs.all b7=true) (hz:ei.zero.isNone=false) (hb:(len+n)*ei.bytes<=gq) (hm:len+n<=4611686018427387904) (hH:H[b]?=some (.cells .live cs)) (hk:kc<len+n) (hc:off+len*ei.size<=cs.length):
  fM E H aM false t (.aI b off len ei.size kc) x=some (.aI aM 0 (len+n) ei.size (len+n),[(b,.cells .dead []),(aM,.cells .live ((cs.drop off).take (len*ei.size)++xs))]):=by
 obtain⟨cS,isAgg,size,bytes,zero,eQ⟩:=i;simp only at hu;subst hu;have h1:(decide (ei.size=0)||!xs.all b7||ei.zero.isNone)=false:=by simp[h0,ho,hz]
 simp only[fM,hS,hE,vJ,aLs,if_false,hl,hs];rw[if_neg (by omega:¬n=0),h1];simp only[aLs,if_false,hH];rw[if_neg (by omega),if_pos ⟨trivial,hc,hb,hm⟩]
theorem builtin_append{H:Hp}{aM t u:Nat}{i:yT}{e:Nat}{s x:AV}{r}(hu:E.ty u=some i)(hi:i.cS=.slice e)(h:fM E H aM false t s x=r):aZ E H aM .append [t,u] [s,x]=r:=by obtain⟨cS,isAgg,size,bytes,zero,eQ⟩:=i;simp only at hi;subst hi;simp only[aZ,hu];exact h
end
theorem uD{H:Hp}:(cJ.bM []).app H=H:=rfl
theorem cR{H:Hp}{b:Nat}{x:cG}(h:b<H.length):(cJ.bM [(b,x)]).app H=H.set b x:=by simp[cJ.app,dP,h]
end Dv
namespace Dv
open Go
def HR:List AV->Option (List (List UInt8))
 |[]=>some []
 |.str s::l=>(HR l).map (s::·)
 |_=>none
structure Up where
 Lf:Nat
 aqg:Nat
 trim:Nat
 trimPrefix:Nat
 GK:Nat
 Ht:Nat
 itoa:Nat
 rep:Nat
 join:Nat
 contains:Nat
 pred:Nat
def Q3:List AV->Option AV
 |[.str s,.int .u8 c]=>some (.int .i64 (Lib.indexByte s c.toNat.toUInt8))
 |_=>none
def Xp:List AV->Option AV
 |[.int .u32 x]=>if 0<=x/\x<=4294967295 then some (.int .i64 (32-(Lib.bitLen x.toNat:Int)))else none
 |_=>none
def E6:List AV->Option AV
 |[.str s,.str c]=>if c.all (fun b=>decide (b.toNat<128))=true/\c.length<4294967281/\s.length<=9223372036854775807 then some (.str (Lib.trimS s c))else none
 |_=>none
def qR:List AV->Option AV
 |[.str s,.str p]=>some (.str (Lib.trimPrefix s p))
 |_=>none
def sU:List AV->Option AV
 |[.str s,.str p]=>some (.tuple [.str (Lib.trimPrefix s p),.bool (Lib.hasPrefix s p)])
 |_=>none
def pZ:List AV->Option AV
 |[.str s,.int .i64 b,.int .i64 z]=>if b=10/\z=32/\s.length<=9223372036854775806 then(match Lib.parseUintB 32 s with
  |.ok u=>some (.tuple [.int .u64 u,.nilIface])
  |_=>none)else none
 |_=>none
def E5:List AV->Option AV
 |[.int .i64 n]=>if 0<=n/\n<=9223372036854775807 then some (.str (Lib.itoa n))else none
 |_=>none
def LV:List AV->Option AV
 |[.str s,.int .i64 n]=>if 0<=n/\n<=9223372036854775807/\s.length*n.toNat<=140737488355328 then some (.str (Lib.repeatL s n.toNat))else none
 |_=>none
def Br:List AV->Option AV
 |[.aJ cs n,.str sep]=>if cs.length=n/\2<=n/\n<=140737488355328 then(match HR cs with
  |some xs=>if 0<(Lib.join xs sep).length/\(Lib.join xs sep).length<=281474976710656 then some (.str (Lib.join xs sep))else none
  |none=>none)else none
 |_=>none
def sh(pred:Nat):List AV->Option AV
 |[.str s,.func f [] []]=>if f=pred/\s.all (fun b=>decide (48<=b.toNat/\b.toNat<=57))=true/\s.length<=281474976710656 then some (.bool false)else none
 |_=>none
def ij(N:Up)(f:Nat)(l:List AV):Option AV:=
 if f=N.Lf then Q3 l else
 if f=N.aqg then Xp l else
 if f=N.trim then E6 l else
 if f=N.trimPrefix then qR l else
 if f=N.GK then sU l else
 if f=N.Ht then pZ l else
 if f=N.itoa then E5 l else
 if f=N.rep then LV l else
 if f=N.join then Br l else
 if f=N.contains then sh N.pred l else none
end Dv
namespace Go.Proofs.YtblnjkjjedanaaaGreatDoor
open Go Dv
def Xt:Nat->Nat->List (Nat×Nat)
 |1,10=>[(0,7),(2,7),(3,7)]
 |1,11=>[(0,8),(2,8),(3,8),(4,8)]
 |1,12=>[(4,8),(4,9)]
 |1,13=>[(0,10),(2,10),(4,10),(5,10),(6,10)]
 |3,6=>[(1,3)]
 |3,28=>[(19,20),(20,22)]
 |4,11=>[(3,9),(4,9),(5,9),(6,9),(7,9),(7,8)]
 |5,6=>[(0,4),(1,4),(2,4),(3,4)]
 |5,15=>[(10,12)]
 |6,8=>[(1,4)]
 |6,13=>[(0,8),(1,8),(2,8),(3,8),(0,9),(1,9),(2,9),(3,9),(8,9)]
 |7,5=>[(1,2)]
 |7,13=>[(0,10),(2,10),(4,10),(5,10),(6,10)]
 |7,15=>[(0,10),(1,10),(2,10),(3,10),(4,10),(5,10),(0,11),(1,11),(2,11),(3,11),(4,11),(5,11),(10,11)]
 |8,11=>[(0,9),(2,9),(4,9),(5,9),(6,9),(7,9)]
 |9,9=>[(0,6),(1,6),(2,6)]
 |10,9=>[(0,6),(1,6),(2,6)]
 |18,9=>[(0,6),(1,6),(2,6)]
 |21,6=>[(0,4),(2,4),(3,4)]
 |21,14=>[(7,10)]
 |27,11=>[(4,6)]
 |28,8=>[(1,4)]
 |29,10=>[(3,7),(4,7)]
 |_,_=>[]
def aiq:List Nat:=[7,21,53,56,82,93,98,99,101,132,133,134,141,172,174,178,179,198,201,211]
def Vm:List Nat:=[172,198,211]
def X4:List Nat:=[128,140]
def NL:DataW Unit->List AV
 |.lit (.int k n)=>[.int k n]
 |.agg ds=>go ds
 |_=>[]
where
 go:List (DataW Unit)->List AV
 |[]=>[]
 |.lit (.int k n)::ds=>.int k n::go ds
 |_::ds=>aX::go ds
def afG:List AV:=NL Rows.laid_math_bits_deBruijn64tab
def afF:List AV:=NL Rows.laid_math_bits_deBruijn32tab
def BA:List AV:=NL Rows.laid_internal_strconv_uint64pow10
def VV:Nat->Option (List AV)
 |7=>some afG
 |6=>some afF
 |1=>some BA
 |_=>none
def yh:Up:={Lf:=238,aqg:=177,trim:=118,trimPrefix:=117,GK:=156,Ht:=159,itoa:=91,rep:=92,join:=94,contains:=157,pred:=158}
def RU:List Nat:=[238,177,118,117,156,159,91,92,94,157]
def N1:List Nat:=[140,238,177,118,117,156,159,91,92,94,157]
noncomputable def EN(o:List AV->Option AV):Env:={ty:=YO Tryz.prog,fn:=aaC Tryz.prog aiq Vm X4,glob:=VV,ov:=fun f l=>if f=140 then o l else ij yh f l,ud:=fun _ _ _=>none,pairs:=Xt}
noncomputable def E0:Env:=EN fun _=>none
theorem GP:(Tryz.prog.funcs.all (fun fn=>fn.name != "runtime.NumGoroutine"))=true:=by kernel_rfl
theorem GO:Tryz.prog.follows .mixedOrders=true:=by kernel_rfl
theorem KG:Tryz.prog.funcs.size=278:=by kernel_rfl
theorem agM:(aOA 0 15).all (s7 E0)=true:=by kernel_rfl
theorem agN:(aOA 15 15).all (s7 E0)=true:=by kernel_rfl
theorem agO:(aOA 30 15).all (s7 E0)=true:=by kernel_rfl
theorem agP:(aOA 45 15).all (s7 E0)=true:=by kernel_rfl
theorem agQ:(aOA 60 15).all (s7 E0)=true:=by kernel_rfl
theorem agR:(aOA 75 15).all (s7 E0)=true:=by kernel_rfl
theorem agS:(aOA 90 15).all (s7 E0)=true:=by kernel_rfl
theorem agT:(aOA 105 15).all (s7 E0)=true:=by kernel_rfl
theorem agU:(aOA 120 15).all (s7 E0)=true:=by kernel_rfl
theorem agV:(aOA 135 15).all (s7 E0)=true:=by kernel_rfl
theorem aaj:(aOA 150 15).all (s7 E0)=true:=by kernel_rfl
theorem aak:(aOA 165 15).all (s7 E0)=true:=by kernel_rfl
theorem aal:(aOA 180 15).all (s7 E0)=true:=by kernel_rfl
theorem aam:(aOA 195 15).all (s7 E0)=true:=by kernel_rfl
theorem aan:(aOA 210 15).all (s7 E0)=true:=by kernel_rfl
theorem aao:(aOA 225 15).all (s7 E0)=true:=by kernel_rfl
theorem aap:(aOA 240 15).all (s7 E0)=true:=by kernel_rfl
theorem aaq:(aOA 255 15).all (s7 E0)=true:=by kernel_rfl
theorem aar:(aOA 270 8).all (s7 E0)=true:=by kernel_rfl
theorem YS:Valid E0 Tryz.prog:=by
 refine Cx (E:=E0) (P:=Tryz.prog) (imp:=aiq) (eX:=Vm) (skip:=X4) (by simp only[E0,EN]) (by simp only[E0,EN]) GP GO fun f hf=>?_
 rw[KG]at hf;rcases aOz f 15 with h|h
 ·exact fW agM (by omega) (by omega)
 rcases aOz f 30 with h|h
 ·exact fW agN (by omega) (by omega)
 rcases aOz f 45 with h|h
 ·exact fW agO (by omega) (by omega)
 rcases aOz f 60 with h|h
 ·exact fW agP (by omega) (by omega)
 rcases aOz f 75 with h|h
 ·exact fW agQ (by omega) (by omega)
 rcases aOz f 90 with h|h
 ·exact fW agR (by omega) (by omega)
 rcases aOz f 105 with h|h
 ·exact fW agS (by omega) (by omega)
 rcases aOz f 120 with h|h
 ·exact fW agT (by omega) (by omega)
 rcases aOz f 135 with h|h
 ·exact fW agU (by omega) (by omega)
 rcases aOz f 150 with h|h
 ·exact fW agV (by omega) (by omega)
 rcases aOz f 165 with h|h
 ·exact fW aaj (by omega) (by omega)
 rcases aOz f 180 with h|h
 ·exact fW aak (by omega) (by omega)
 rcases aOz f 195 with h|h
 ·exact fW aal (by omega) (by omega)
 rcases aOz f 210 with h|h
 ·exact fW aam (by omega) (by omega)
 rcases aOz f 225 with h|h
 ·exact fW aan (by omega) (by omega)
 rcases aOz f 240 with h|h
 ·exact fW aao (by omega) (by omega)
 rcases aOz f 255 with h|h
 ·exact fW aap (by omega) (by omega)
 rcases aOz f 270 with h|h
 ·exact fW aaq (by omega) (by omega)
 rcases aOz f 278 with h|h
 ·exact fW aar (by omega) (by omega)
 omega
end Go.Proofs.YtblnjkjjedanaaaGreatDoor
namespace Go.Proofs
open Go.Shelf
def Tryz.Ce:Go.Shelf.Ren:=⟨fun|156=>94|165=>125|166=>126|169=>128|240=>165|241=>166|276=>196|277=>197|n=>n,fun|31=>54|9=>9|3=>3|4=>4|0=>0|20=>20|72=>195|76=>199|70=>192|37=>193|75=>198|127=>244|164=>271|5=>5|80=>117|n=>n,fun|n=>n⟩
theorem Tryz.Jd:Go.Proofs.Lays.n156 Tryz.prog Tryz.Ce:=by constructor<;>first|kernel_rfl|(intro _;kernel_rfl)|decide|(constructor<;>first|kernel_rfl|(intro _;kernel_rfl)|decide)
theorem Tryz.nW:Builder.Extra Tryz.prog Tryz.Ce:=by constructor<;>first|kernel_rfl|(intro _;kernel_rfl)|decide|(constructor<;>first|kernel_rfl|(intro _;kernel_rfl)|decide)
def Tryz.Lm:Go.Shelf.Ren:=⟨fun|160=>118|232=>150|231=>149|227=>151|234=>153|233=>152|236=>155|235=>154|228=>184|271=>187|151=>186|197=>185|120=>218|152=>217|260=>216|137=>240|119=>241|224=>214|225=>213|217=>212|266=>238|n=>n,fun|9=>9|4=>4|3=>3|5=>5|117=>229|116=>228|0=>0|124=>232|21=>21|105=>261|46=>157|119=>306|139=>309|138=>308|n=>n,fun|3=>2|4=>3|n=>n⟩
theorem Tryz.abF:Go.Proofs.Lays.n160 Tryz.prog Tryz.Lm:=by constructor<;>first|kernel_rfl|(intro _;kernel_rfl)|decide|(constructor<;>first|kernel_rfl|(intro _;kernel_rfl)|decide)
def Tryz.Ll:Go.Shelf.Ren:=⟨fun|133=>177|128=>209|n=>n,fun|51=>156|3=>3|4=>4|46=>157|5=>5|9=>9|n=>n,fun|n=>n⟩
theorem Tryz.abE:Go.Proofs.Lays.n133 Tryz.prog Tryz.Ll:=by constructor<;>first|kernel_rfl|(intro _;kernel_rfl)|decide|(constructor<;>first|kernel_rfl|(intro _;kernel_rfl)|decide)
def Tryz.Lk:Go.Shelf.Ren:=⟨fun|103=>156|210=>188|206=>164|n=>n,fun|9=>9|4=>4|24=>52|3=>3|n=>n,fun|n=>n⟩
theorem Tryz.abC:Go.Proofs.Lays.n103 Tryz.prog Tryz.Lk:=by constructor<;>first|kernel_rfl|(intro _;kernel_rfl)|decide|(constructor<;>first|kernel_rfl|(intro _;kernel_rfl)|decide)
def Tryz.Jf:Go.Shelf.Ren:=⟨fun|171=>91|243=>122|246=>161|283=>192|284=>193|285=>194|286=>195|129=>210|317=>226|318=>227|319=>228|320=>229|337=>244|338=>245|n=>n,fun|3=>3|9=>9|2=>2|4=>4|171=>266|0=>0|53=>154|37=>193|5=>5|173=>269|212=>295|51=>156|20=>20|213=>296|46=>157|232=>320|233=>321|n=>n,fun|17=>1|18=>6|19=>7|n=>n⟩
theorem Tryz.WU:Go.Proofs.LaysM.n171 Tryz.prog Tryz.Jf:=by constructor<;>first|kernel_rfl|(intro _;kernel_rfl)|decide|(constructor<;>first|kernel_rfl|(intro _;kernel_rfl)|decide)
def Tryz.Jg:Go.Shelf.Ren:=⟨fun|14=>159|16=>190|17=>191|19=>220|20=>221|21=>222|22=>223|23=>224|24=>225|25=>242|27=>91|26=>243|28=>122|29=>161|30=>192|31=>193|32=>194|33=>195|35=>210|34=>226|36=>227|37=>228|38=>229|39=>244|40=>245|n=>n,fun|9=>9|3=>3|22=>154|24=>198|25=>236|4=>4|34=>289|5=>5|36=>157|37=>193|0=>0|39=>291|21=>21|44=>312|47=>244|50=>319|48=>317|2=>2|52=>266|55=>269|59=>295|60=>156|20=>20|61=>296|65=>320|66=>321|67=>117|n=>n,fun|0=>4|1=>5|2=>1|3=>6|4=>7|n=>n⟩
theorem Tryz.WV:Go.Proofs.LaysPu.n14 Tryz.prog Tryz.Jg:=by constructor<;>first|kernel_rfl|(intro _;kernel_rfl)|decide|(constructor<;>first|kernel_rfl|(intro _;kernel_rfl)|decide)
def Tryz.Je:Go.Shelf.Ren:=⟨fun|17=>157|15=>189|20=>219|n=>n,fun|9=>9|23=>235|4=>4|3=>3|0=>0|21=>21|n=>n,fun|n=>n⟩
theorem Tryz.WT:Go.Proofs.LaysGw.n17 Tryz.prog Tryz.Je:=by constructor<;>first|kernel_rfl|(intro _;kernel_rfl)|decide|(constructor<;>first|kernel_rfl|(intro _;kernel_rfl)|decide)
def Tryz.Lj:Go.Shelf.Ren:=⟨fun|101=>117|208=>148|206=>164|n=>n,fun|9=>9|4=>4|3=>3|n=>n,fun|n=>n⟩
theorem Tryz.abB:Go.Proofs.Lays.n101 Tryz.prog Tryz.Lj:=by constructor<;>first|kernel_rfl|(intro _;kernel_rfl)|decide|(constructor<;>first|kernel_rfl|(intro _;kernel_rfl)|decide)
def Tryz.Cc:Go.Shelf.Ren:=⟨fun|105=>92|212=>123|99=>124|165=>125|166=>126|170=>127|169=>128|263=>162|264=>163|206=>164|240=>165|241=>166|276=>196|277=>197|n=>n,fun|9=>9|3=>3|4=>4|20=>20|0=>0|46=>157|109=>189|5=>5|72=>195|76=>199|51=>156|146=>240|53=>154|148=>242|70=>192|37=>193|75=>198|127=>244|164=>271|80=>117|n=>n,fun|n=>n⟩
theorem Tryz.abD:Go.Proofs.Lays.n105 Tryz.prog Tryz.Cc:=by constructor<;>first|kernel_rfl|(intro _;kernel_rfl)|decide|(constructor<;>first|kernel_rfl|(intro _;kernel_rfl)|decide)
theorem Tryz.yW:Builder.Extra Tryz.prog Tryz.Cc:=by constructor<;>first|kernel_rfl|(intro _;kernel_rfl)|decide|(constructor<;>first|kernel_rfl|(intro _;kernel_rfl)|decide)
end Go.Proofs
