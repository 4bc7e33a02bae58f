/- A part of the proof that PairRefuses returns true for every input; no condition of its own. -/
import Derived.Test.YtblnjkjjedanaaaGreatDoorTag
import Derived.Lib.SmallJoins
import Derived.Lib.LaidTab
import Derived.Lib.AppendIntMem
import Derived.Lib.TrimUEq
import Derived.Lib.TrimAscii
import Derived.WalkKit
set_option linter.all false
set_option maxHeartbeats 100000000
set_option maxRecDepth 100000
open Option renaming map_some->aNj,some->aLv,bind_some->aOS,map_eq_some_iff->aLp
open List renaming all_eq_true->aMa,getElem?_map->aNe,getElem?_eq_getElem->aMh,length_map->aOT,getElem?_toArray->aOU,all_cons->aOV,countP_eq_zero->aOW
open Bool renaming false_eq_true->aLs,and_eq_true->aMq,not_eq_true'->aMd
open Array renaming toList_inj->aOR
open Nat renaming le_max_right->aOC,le_max_left->aOD,lt_or_ge->aOz
namespace Go.Proofs.YtblnjkjjedanaaaGreatDoor
open Go Go.RowKit Dv
theorem U1{f:Nat}(h:(E0.fn f).isSome=true)(vs:Array Value)(w:World):(callFunc f vs).run Tryz.prog w=.ok (.enter f vs) w:=by obtain⟨fi,oJ⟩:=Option.isSome_iff_exists.1 h;exact n7 YS oJ vs w
theorem ko{f:Nat}{vs:Array Value}{w:World}{post:Ending->World->Prop}{Rr:Value->World->Prop}(h:(E0.fn f).isSome=true)(hc:Calls Tryz.prog f vs w post)(hm:∀e w',post e w'->MT Rr e w'):pM Tryz.prog ((callFunc f vs).run Tryz.prog w) Rr:=
 .inr (.inl ⟨f,vs,w,U1 h vs w,callsIn_wide.2 (hc.mono hm)⟩)
abbrev iS(w:World)(L:Nat->Prop)(r:AV):Value->World->Prop:=fun v w'=>Below w.heap.size w w'/\R cE w' L r v
section
variable{l:List AV}{r:AV}{L:Nat->Prop}{w:World}{vs:Array Value}
theorem UD{a:AV}(h:Rs cE w L [a] vs.toList):∃v,vs=#[v]/\R cE w L a v:=by simp only[Rs]at h;obtain⟨v1,l1,e1,h1,rfl⟩:=h;exact⟨v1,aOR.1 e1,h1⟩
theorem DG{a b:AV}(h:Rs cE w L [a,b] vs.toList):∃v u,vs=#[v,u]/\R cE w L a v/\R cE w L b u:=by simp only[Rs]at h;obtain⟨v1,l1,e1,h1,v2,l2,rfl,h2,rfl⟩:=h;exact⟨v1,v2,aOR.1 e1,h1,h2⟩
theorem alf{a b c:AV}(h:Rs cE w L [a,b,c] vs.toList):∃v u x,vs=#[v,u,x]/\R cE w L a v/\R cE w L b u/\R cE w L c x:=by simp only[Rs]at h;obtain⟨v1,l1,e1,h1,v2,l2,rfl,h2,v3,l3,rfl,h3,rfl⟩:=h;exact⟨v1,v2,v3,aOR.1 e1,h1,h2,h3⟩
theorem pJ{s:List UInt8}{v:Value}(h:R cE w L (.str s) v):v=.string ⟨s.toArray⟩:=by simpa[R]using h
theorem u6{k:IntKind}{n:Int}{v:Value}(h:R cE w L (.int k n) v):v=.int k n:=by simpa[R]using h
theorem func238:∃fn,Tryz.prog.funcs[238]?=some fn/\(fn.name== "runtime.NumGoroutine")=false/\fn.body.isNone=true/\Extern.findNext fn=none/\Extern.find fn=some Extern.BytealgIndexByte.indexByte:=
 ⟨Tryz.f238,Tryz.func238,by kernel_rfl,by kernel_rfl,by kernel_rfl,by kernel_rfl⟩
theorem aiO(h:Q3 l=some r)(ha:Rs cE w L l vs.toList):pM Tryz.prog ((callFunc 238 vs).run Tryz.prog w) (iS w L r):=by
 unfold Q3 at h;split at h
 case h_2=>cases h
 rename_i s c;cases h;obtain⟨v,u,rfl,h1,h2⟩:=DG ha;obtain rfl:=pJ h1;obtain rfl:=u6 h2;obtain⟨fn,g1,g2,g3,g4,g5⟩:=func238;refine .inl ⟨.int .i64 (Lib.indexByte s c.toNat.toUInt8),w,?_,Go.RowKit.Below.refl _ _,by simp[R]⟩;rw[run_callFunc_extern g1 g2 g3 g4 g5,Lib.run_indexByteString];simp[Result.andThen]
theorem aqw(h:Xp l=some r)(ha:Rs cE w L l vs.toList):pM Tryz.prog ((callFunc 177 vs).run Tryz.prog w) (iS w L r):=by
 unfold Xp at h;split at h
 case h_2=>cases h
 split at h
 case isFalse=>cases h
 rename_i x hx;cases h;obtain⟨v,rfl,h1⟩:=UD ha;obtain rfl:=u6 h1;refine ko (by kernel_rfl) (Any.bits_LeadingZeros32 Tryz.abE x w hx.1 hx.2) ?_;rintro e w' ⟨rfl,rfl⟩;exact⟨Below.refl _ _,by simp[R]⟩
theorem ab0(h:E6 l=some r)(ha:Rs cE w L l vs.toList):pM Tryz.prog ((callFunc 118 vs).run Tryz.prog w) (iS w L r):=by
 unfold E6 at h;split at h
 case h_2=>cases h
 split at h
 case isFalse=>cases h
 rename_i s c hx;cases h;obtain⟨h3,h4,h5⟩:=hx;obtain⟨v,u,rfl,h1,h2⟩:=DG ha;obtain rfl:=pJ h1;obtain rfl:=pJ h2;refine ko (by kernel_rfl) (Any.strings_Trim_laid Tryz.abF (by kernel_rfl) ⟨s.toArray⟩ ⟨c.toArray⟩ w h5 h4 ?_) ?_
 ·intro j b hb
  have:=aMa.1 h3 b (List.mem_of_getElem? hb)
  simpa using this
 ·rintro e w' ⟨rfl,hb⟩;exact⟨hb,by simp[R]⟩
theorem Gb(h:qR l=some r)(ha:Rs cE w L l vs.toList):pM Tryz.prog ((callFunc 117 vs).run Tryz.prog w) (iS w L r):=by
 unfold qR at h;split at h
 case h_2=>cases h
 rename_i s c;cases h;obtain⟨v,u,rfl,h1,h2⟩:=DG ha;obtain rfl:=pJ h1;obtain rfl:=pJ h2;refine ko (by kernel_rfl) (Any.strings_TrimPrefix Tryz.abB ⟨s.toArray⟩ ⟨c.toArray⟩ w) ?_;rintro e w' ⟨rfl,rfl⟩;exact⟨Below.refl _ _,by simp[R]⟩
theorem Js(h:sU l=some r)(ha:Rs cE w L l vs.toList):pM Tryz.prog ((callFunc 156 vs).run Tryz.prog w) (iS w L r):=by
 unfold sU at h;split at h
 case h_2=>cases h
 rename_i s c;cases h;obtain⟨v,u,rfl,h1,h2⟩:=DG ha;obtain rfl:=pJ h1;obtain rfl:=pJ h2;refine ko (by kernel_rfl) (Any.strings_CutPrefix Tryz.abC ⟨s.toArray⟩ ⟨c.toArray⟩ w) ?_;rintro e w' ⟨rfl,rfl⟩;exact⟨Below.refl _ _,by simp[R,Rs]⟩
theorem Jt(h:pZ l=some r)(ha:Rs cE w L l vs.toList):pM Tryz.prog ((callFunc 159 vs).run Tryz.prog w) (iS w L r):=by
 unfold pZ at h;split at h
 case h_2=>cases h
 split at h
 case isFalse=>cases h
 rename_i s b z hx;obtain⟨rfl,rfl,hl⟩:=hx;split at h
 case h_2=>cases h
 rename_i u hu;cases h;obtain⟨v,x,y,rfl,h1,h2,h3⟩:=alf ha;obtain rfl:=pJ h1;obtain rfl:=u6 h2;obtain rfl:=u6 h3;refine ko (by kernel_rfl) (Any.strconv_ParseUint_10_at32_ok Tryz.WV ⟨s.toArray⟩ hl u hu w) ?_;rintro e w' ⟨rfl,hb⟩;refine⟨?_,by simp[R,Rs]⟩;rcases hb with rfl|rfl
 ·exact Below.refl _ _
 ·exact Lib.bytesWorld_below w _ _
theorem ajW(hg:tF E0 L w):Lib.TabIs Tryz.prog w "internal/strconv.uint64pow10" .u64 Lib.pow10Tab:=by
 obtain⟨c,e,f,h1,h2,h3,h4⟩:=hg 1 BA rfl;have hgn:Tryz.prog.globalNamed "internal/strconv.uint64pow10"=some 1:=by kernel_rfl
 unfold Lib.TabIs World.var?;rw[hgn];simp only[aOS,h1,aLv.injEq];have hT:BA=Lib.pow10Tab.map fun z=>AV.int .u64 z:=by kernel_rfl
 have hlen:BA.length=20:=by kernel_rfl
 apply Array.ext_getElem?;intro i;have hp:Lib.pow10Tab.length=20:=Lib.pow10Tab_length;by_cases hi:i<20
 ·have hx:BA[i]?=some (.int .u64 (Lib.pow10Tab[i]'(by omega))):=by rw[hT,aNe,aMh (by omega)];rfl
  obtain⟨y,hy,hr⟩:=j6.get h3 i _ hx;rw[Nat.zero_add]at hy;obtain rfl:=u6 hr;rw[hy,aOU,aNe,aMh (by omega)];rfl
 ·rw[Array.getElem?_eq_none (by omega),aOU,List.getElem?_eq_none (by rw[aOT];omega)]
theorem abX(hg:tF E0 L w)(h:E5 l=some r)(ha:Rs cE w L l vs.toList):pM Tryz.prog ((callFunc 91 vs).run Tryz.prog w) (iS w L r):=by
 unfold E5 at h;split at h
 case h_2=>cases h
 split at h
 case isFalse=>cases h
 rename_i n hx;cases h;obtain⟨v,rfl,h1⟩:=UD ha;obtain rfl:=u6 h1;refine ko (by kernel_rfl) (Any.strconv_Itoa Tryz.WU n (by omega) hx.2 w (ajW hg)) ?_;rintro e w' ⟨rfl,k,os,rfl⟩;exact⟨Lib.below_grow _ w (Nat.le_refl _) k os,by simp[R]⟩
theorem aiP(h:LV l=some r)(ha:Rs cE w L l vs.toList):pM Tryz.prog ((callFunc 92 vs).run Tryz.prog w) (iS w L r):=by
 unfold LV at h;split at h
 case h_2=>cases h
 split at h
 case isFalse=>cases h
 rename_i s n hx;cases h;obtain⟨v,u,rfl,h1,h2⟩:=DG ha;obtain rfl:=pJ h1;obtain rfl:=u6 h2;obtain⟨m,rfl⟩:∃m:Nat,n=m:=⟨n.toNat,by omega⟩;refine ko (by kernel_rfl) (Any.strings_Repeat Tryz.abD Tryz.yW ⟨s.toArray⟩ m w (by omega) (by have:=hx.2.2;rw[Lib.size_eq];simpa using this)) ?_;rintro e w' ⟨rfl,hb⟩;exact⟨hb,by simp[R]⟩
theorem HT:∀{cs:List AV} {xs:List (List UInt8)},HR cs=some xs->cs=xs.map AV.str
 |[],xs,h=>by cases h;rfl
 |.str s::l,xs,h=>by
  simp only[HR,aLp]at h;obtain⟨ys,h1,rfl⟩:=h;rw[HT h1];rfl
 |.bool _::_,_,h=>by cases h
 |.int .. ::_,_,h=>by cases h
 |.jH::_,_,h=>by cases h
 |.b6 .. ::_,_,h=>by cases h
 |.eU .. ::_,_,h=>by cases h
 |.rX .. ::_,_,h=>by cases h
 |.aH::_,_,h=>by cases h
 |.ef::_,_,h=>by cases h
 |.aI .. ::_,_,h=>by cases h
 |.aJ .. ::_,_,h=>by cases h
 |.jW::_,_,h=>by cases h
 |.iL _::_,_,h=>by cases h
 |.xk .. ::_,_,h=>by cases h
 |.jl::_,_,h=>by cases h
 |.func .. ::_,_,h=>by cases h
 |.nilIface::_,_,h=>by cases h
 |.iface .. ::_,_,h=>by cases h
 |.agg _::_,_,h=>by cases h
 |.tuple _::_,_,h=>by cases h
 |.yield _::_,_,h=>by cases h
theorem abY(h:Br l=some r)(ha:Rs cE w L l vs.toList):pM Tryz.prog ((callFunc 94 vs).run Tryz.prog w) (iS w L r):=by
 unfold Br at h;split at h
 case h_2=>cases h
 split at h
 case isFalse=>cases h
 rename_i cs n sep hx;split at h
 case h_2=>cases h
 rename_i xs WI;split at h
 case isFalse=>cases h
 rename_i hb;cases h;obtain⟨v,u,rfl,h1,h2⟩:=DG ha;obtain rfl:=pJ h2;simp only[R]at h1;obtain⟨cb,o,cap,c,e,f,rfl,KT,Er,-,tT⟩:=h1;have tg:=HT WI;have hlen:(xs.map fun s:List UInt8=>(⟨s.toArray⟩:ByteArray)).length=n:=by rw[aOT,<-hx.1,tg,aOT]
 have T8:(xs.map fun s:List UInt8=>(⟨s.toArray⟩:ByteArray)).map (·.data.toList)=xs:=by rw[List.map_map];exact(List.map_congr_left fun s _=>rfl).trans (List.map_id _)
 have hC:=Any.strings_Join_48 Tryz.Jd Tryz.nW cb o cap (xs.map fun s:List UInt8=>(⟨s.toArray⟩:ByteArray)) ⟨sep.toArray⟩ w (fun j x hj=>by
  rw[aNe,aLp]at hj;obtain⟨s,hs,rfl⟩:=hj;obtain⟨y,hy,hr⟩:=j6.get tT j (.str s) (by rw[tg,aNe,hs];rfl);obtain rfl:=pJ hr;show w.cell? _=_
  unfold World.cell?;simp[Er,hy]) (eh Er) (by rw[hlen];exact hx.2.2) (by rw[hlen];exact KT) (by rw[T8];exact hb.2)
 rw[hlen,T8]at hC;refine ko (by kernel_rfl) hC ?_;rintro e w' ⟨rfl,hb⟩;exact⟨hb,by simp[R]⟩
theorem NV(w:World):PredAt Tryz.prog 158 #[] encR (fun r=>decide (r<48)||decide (57<r)) w:=fun W r _=>by
 unfold FnGives;by_cases h1:r<48<;>by_cases h2:57<r
 all_goals
  have z1:(r:Int)<48↔r<48:=by omega
  have z2:(57:Int)<(r:Int)↔57<r:=by omega
  go_enter Tryz.func158,Tryz.ntmps158
  go_wp2
  all_goals first|(exfalso;omega)|(go_ret;exact⟨by simp[h1,h2],0,rfl⟩)
theorem DT{s:ByteArray}(h:∀b∈s.data.toList,48<=b.toNat/\b.toNat<=57):∀(f pos:Nat),Lib.idxFuncFrom (fun r=>decide (r<48)||decide (57<r)) true s f pos= -1
 |0,_=>rfl
 |f+1,pos=>by
  unfold Lib.idxFuncFrom
  split
  ·rename_i hp;rw[<-Lib.decodeL_drop];have hp':pos<s.data.toList.length:=by rw[<-Lib.size_eq];exact hp
   rw[List.drop_eq_getElem_cons hp'];have hb:=h _ (List.getElem_mem hp');generalize s.data.toList[pos]=x at hb;have z1:decide (x.toNat<48)=false:=decide_eq_false (by omega);have z2:decide (57<x.toNat)=false:=decide_eq_false (by omega);rw[Lib.decodeL_ascii _ _ (by omega)];simp only[z1,z2];rw[if_neg (by simp)];exact DT h f _
  ·rfl
theorem LU(h:sh 158 l=some r)(ha:Rs cE w L l vs.toList):pM Tryz.prog ((callFunc 157 vs).run Tryz.prog w) (iS w L r):=by
 unfold sh at h;split at h
 case h_2=>cases h
 split at h
 case isFalse=>cases h
 rename_i s g hx;cases h;obtain⟨rfl,hd,-⟩:=hx;obtain⟨v,u,rfl,h1,h2⟩:=DG ha;obtain rfl:=pJ h1;simp only[R,Rs]at h2;obtain⟨a,c,rfl,Oe,G0⟩:=h2;obtain rfl:a=#[]:=aOR.1 (by simpa using Oe);obtain rfl:c=#[]:=aOR.1 (by simpa using G0);have hC:=Any.strings_ContainsFunc Tryz.WT 158 #[] (enters_of Tryz.func158 (by kernel_rfl) rfl) _ ⟨s.toArray⟩ w (NV w);refine ko (by kernel_rfl) hC ?_;rintro e w' ⟨rfl,hb⟩;refine⟨hb,?_⟩;simp only[R];congr 1;unfold Lib.idxFunc;rw[DT (fun b hb=>by
  have:=aMa.1 hd b (by simpa using hb)
  simpa using this)]
 rfl
end
theorem afk{o:List AV->Option AV}(ho:∀(al:List AV) (r:AV),o al=some r->∀(L:Nat->Prop) (w:World) (vs:Array Value),(∀l,L l->l<w.heap.size)->tF E0 L w->Rs cE w L al vs.toList->pM Tryz.prog ((callFunc 140 vs).run Tryz.prog w) (iS w L r)):za (EN o) Tryz.prog:=by
 refine⟨?_,?_⟩
 ·intro f al r hr L w vs hl hg ha;have lW:(if f=140 then o al else ij yh f al)=some r:=hr;split at lW
  ·rename_i h;subst h;exact ho al r lW L w vs hl hg ha
  unfold ij at lW;split at lW
  ·rename_i h;subst h;exact aiO lW ha
  split at lW
  ·rename_i h;subst h;exact aqw lW ha
  split at lW
  ·rename_i h;subst h;exact ab0 lW ha
  split at lW
  ·rename_i h;subst h;exact Gb lW ha
  split at lW
  ·rename_i h;subst h;exact Js lW ha
  split at lW
  ·rename_i h;subst h;exact Jt lW ha
  split at lW
  ·rename_i h;subst h;exact abX hg lW ha
  split at lW
  ·rename_i h;subst h;exact aiP lW ha
  split at lW
  ·rename_i h;subst h;exact abY lW ha
  split at lW
  ·rename_i h;subst h;exact LU lW ha
  ·cases lW
 ·intro f al H v H2 h;cases h
theorem aqD:za E0 Tryz.prog:=afk fun al r h=>by cases h
end Go.Proofs.YtblnjkjjedanaaaGreatDoor
namespace Dv
open Go Go.RowKit
noncomputable section
inductive Tree where
 |nil
 |leaf (f:Nat) (l:List (Nat×vQ))
 |node (f:Nat) (a b:Tree)
def Tree.at:Tree->Nat->List (Nat×vQ)
 |.nil,_=>[]
 |.leaf g l,f=>if Nat.beq f g then l else []
 |.node g a b,f=>if Nat.blt f g then a.at f else b.at f
def KK(k:Nat):List (Nat×vQ)->List AV->Option AV
 |[],_=>none
 |(j,K)::l,args=>if Nat.ble j k then(match Qw K args with
  |some r=>some r
  |none=>KK k l args)else KK k l args
def Env.upto(E:Env)(T:Tree)(k:Nat):Env:={E with ov:=fun f args=>match KK k (T.at f) args with
 |some r=>some r
 |none=>E.ov f args}
def Good(E:Env)(P:Program)(f:Nat)(a_:List AV)(r:AV):Prop:=∀(L:Nat->Prop) (w:World) (vs:Array Value),(∀c,L c->c<w.heap.size)->tF E L w->
 Rs cE w L a_ vs.toList->pM P ((callFunc f vs).run P w) (fun v w'=>Below w.heap.size w w'/\R cE w' L r v)
theorem AZ{k:Nat}:∀{l:List (Nat×vQ)} {args:List AV} {r:AV},KK k l args=some r->∃j K,(j,K)∈l/\j<=k/\(args,r)∈K
 |[],_,_,h=>by cases h
 |(j,K)::l,args,r,h=>by
  unfold KK at h;split at h
  ·rename_i hj;split at h
   ·rename_i r' hr;cases h;exact⟨j,K,by simp,Nat.le_of_ble_eq_true hj,GV hr⟩
   ·obtain⟨j',K',h1,h2,h3⟩:=AZ h;exact⟨j',K',by simp[h1],h2,h3⟩
  ·obtain⟨j',K',h1,h2,h3⟩:=AZ h;exact⟨j',K',by simp[h1],h2,h3⟩
def ke(E:Env)(P:Program)(T:Tree)(k:Nat):Prop:=∀f j K,(j,K)∈T.at f->j<=k->∀a_ r,(a_,r)∈K->Good E P f a_ r
theorem adp{E:Env}{P:Program}(V:Valid E P)(O:za E P){T:Tree}{k:Nat}(h:ke E P T k):Valid (E.upto T k) P/\za (E.upto T k) P:=by
 refine⟨V.ov _ _,⟨?_,O.ud.env rfl (fun c=>jS _ _ c)⟩⟩;intro f a_ r hr L w vs hl hgl ha;simp only[Env.upto]at hr;split at hr
 ·rename_i r' hf;cases hr;obtain⟨j,K,h1,h2,h3⟩:=AZ hf;exact h f j K h1 h2 a_ r h3 L w vs hl hgl ha
 ·exact O.ov f a_ r hr L w vs hl hgl ha
theorem ke.step{E:Env}{P:Program}(V:Valid E P)(O:za E P){T:Tree}{k n:Nat}(h:ke E P T k)(hc:∀f K,(k+1,K)∈T.at f->U3 (E.upto T k) n f K=true):ke E P T (k+1):=by
 intro f j K hm hj a_ r hr;rcases aOz k j with gO|F5
 ·have:j=k+1:=by omega
  subst this;have hk:=aMa.1 (hc f K hm) _ hr;simp only at hk;split at hk
  ·rename_i v hv;obtain⟨V',O'⟩:=adp V O h
   have:=Qk V' O' n f a_ v hv
   rw[<-Iy _ _ hk];exact fun L w vs hl hg ha=>this L w vs hl hg ha
  ·cases hk
 ·exact h f j K hm F5 a_ r hr
theorem ke.skip{E:Env}{P:Program}{T:Tree}{k:Nat}(h:ke E P T k)(hc:∀f K,(k+1,K)∉T.at f):ke E P T (k+1):=by
 intro f j K hm hj a_ r hr;rcases aOz k j with gO|F5
 ·have:j=k+1:=by omega
  subst this;exact absurd hm (hc f K)
 ·exact h f j K hm F5 a_ r hr
def Tree.leaves:Tree->List (Nat×Nat×vQ)
 |.nil=>[]
 |.leaf f l=>l.map fun x=>(f,x.1,x.2)
 |.node _ a b=>a.leaves++b.leaves
theorem tI:∀(T:Tree) (f j:Nat) (K:vQ),(j,K)∈T.at f->(f,j,K)∈T.leaves
 |.nil,_,_,_,h=>by simp[Tree.at]at h
 |.leaf g l,f,j,K,h=>by
  simp only[Tree.at]at h;split at h
  ·rename_i hf
   have:=Nat.eq_of_beq_eq_true hf
   subst this;exact List.mem_map.2 ⟨_,h,rfl⟩
  ·simp at h
 |.node g a b,f,j,K,h=>by
  simp only[Tree.at]at h;simp only[Tree.leaves,List.mem_append];split at h
  ·exact .inl (tI a f j K h)
  ·exact .inr (tI b f j K h)
theorem ke.next{E:Env}{P:Program}(V:Valid E P)(O:za E P){T:Tree}{k n:Nat}(h:ke E P T k)(hc:∀x,x∈T.leaves->x.2.1=k+1->U3 (E.upto T k) n x.1 x.2.2=true):ke E P T (k+1):=
 h.step V O fun f K hm=>hc (f,k+1,K) (tI T f _ K hm) rfl
theorem ke.zero{E:Env}{P:Program}{T:Tree}(hl:(T.leaves.filter fun x=>x.2.1==0).length=0):ke E P T 0:=by
 intro f j K hm hj a_ r hr;have h1:=tI T f j K hm
 have:(f,j,K)∈T.leaves.filter fun x=>x.2.1==0:=List.mem_filter.2 ⟨h1,by simp;omega⟩
 rw[List.length_eq_zero_iff.1 hl]at this;cases this
theorem Sx{T:Tree}{k:Nat}{l:Table}(hl:(T.leaves.filter fun x=>x.2.1==k).map (fun x=>(x.1,x.2.2))=l){f:Nat}{K:vQ}(hm:(k,K)∈T.at f):(f,K)∈l:=by rw[<-hl];exact List.mem_map.2 ⟨(f,k,K),List.mem_filter.2 ⟨tI T f k K hm,by simp⟩,rfl⟩
theorem ke.other{E:Env}{P:Program}{T:Tree}{k:Nat}{l:Table}(h:ke E P T k)(hl:(T.leaves.filter fun x=>x.2.1==k+1).map (fun x=>(x.1,x.2.2))=l)
  (hg:∀p,p∈l->∀e,e∈p.2->Good E P p.1 e.1 e.2):ke E P T (k+1):=by
 intro f j K hm hj a_ r hr;rcases aOz k j with gO|F5
 ·have:j=k+1:=by omega
  subst this;exact hg (f,K) (Sx hl hm) (a_,r) hr
 ·exact h f j K hm F5 a_ r hr
end
noncomputable section
variable{s:Nat}
end
end Dv
namespace Dv
open Go Go.RowKit
def mw(E:Env)(f:Nat)(al:List AV)(r:AV):Prop:=(∀fi,E.fn f=some fi->fi.pure=true)/\∃m,call E m f al=some r
def LQ:Pc:=fun _ _=>none
def yg:Ic:=fun _ _ _=>none
def oe(o:Oper):Bool:=match o.op with
 |.call c=>match c.callee with
  |.value _=>true
  |_=>false
 |_=>false
def Kc(E:Env)(ops:List Oper)(o:Oper)(ts:List AV)(H:Hp)(k:List AV->Hp->Prop):Prop:=
 match o.op with
 |.call {callee:=.value fo,args:=args,..}=>match ch ts fo,nL ts args.toList with
  |some (.func f first cap),some al=>∃vS bs r,bW H (first++al++cap)=some (vS,bs)/\mw E f vS r/\k (bQ o.dst r ts) ((if bJ r then cJ.looks bs else cJ.marks bs).app H)
  |_,_=>False
 |_=>match cO E LQ yg yg false ops H.length {o with guard:=none} ts H with
  |some (yV,e)=>k yV (e.app H)
  |none=>False
def u9(E:Env)(ops:List Oper)(o:Oper)(ts:List AV)(H:Hp)(k:List AV->Hp->Prop):Prop:=
 if bU ops ts o=true then Kc E ops o ts H k else k (bQ o.dst aX ts) H
def ft(E:Env)(ops:List Oper):List Oper->List AV->Hp->(List AV->Hp->Prop)->Prop
 |[],ts,H,q=>q ts H
 |o::rest,ts,H,q=>u9 E ops o ts H fun yV H1=>ft E ops rest yV H1 q
theorem su{E:Env}{pc:Pc}{ic yc:Ic}{dr:Bool}{ops:List Oper}{aM:Nat}{o:Oper}{ts:List AV}{H:Hp}(h:bU ops ts o=true):
  cO E pc ic yc dr ops aM o ts H=cO E pc ic yc dr ops aM {o with guard:=none} ts H:=by
 unfold cO;rw[if_pos h,if_pos (show bU ops ts {o with guard:=none}=true from rfl)];rfl
theorem ur{E:Env}{pc:Pc}{ic yc:Ic}{dr:Bool}{ops:List Oper}{aM:Nat}{o:Oper}{ts:List AV}{H:Hp}(h:¬bU ops ts o=true):
  cO E pc ic yc dr ops aM o ts H=some (bQ o.dst aX ts,.bM []):=by
 unfold cO;rw[if_neg h]
theorem J9.UU{E:Env}{ops rest:List Oper}{ts:List AV}{H:Hp}{q:List AV->Hp->Prop}{d:Option Nat}{t:Nat}{p:String}{af:Array Edge}{g:Option (Nat×Bool)}{fo:Operand}{args:Array Operand}{eg:Array Nat}{f:Nat}{first cap al vS:List AV}{bs:List Nat}{r:AV}
  (hw:bU ops ts ⟨d,.call {callee:=.value fo,args:=args,argTypes:=eg},t,p,af,g⟩=true) (hf:ch ts fo=some (.func f first cap)) (ha:nL ts args.toList=some al) (hz:bW H (first++al++cap)=some (vS,bs)) (hc:mw E f vS r)
  (h:J9 E ops rest (bQ d r ts) ((if bJ r then cJ.looks bs else cJ.marks bs).app H) q):
  J9 E ops (⟨d,.call {callee:=.value fo,args:=args,argTypes:=eg},t,p,af,g⟩::rest) ts H q:=by
 obtain⟨n,df,H',k1,k2⟩:=h;obtain⟨hp,m,hm⟩:=hc;have l1:=jd (E:=E) (aOD n m);refine⟨max n m,df,H',?_,k2⟩;unfold Bo;have h1:qc E (dJ E (max n m)) f vS=some r:=qM (aOC n m) _ _ _ hm;have fK:cO E (qc E (dJ E (max n m))) (um E (dJ E (max n m))) (yi (dJ E (max n m))) false ops H.length ⟨d,.call {callee:=.value fo,args:=args,argTypes:=eg},t,p,af,g⟩ ts H=some (bQ d r ts,if bJ r then cJ.looks bs else cJ.marks bs):=by
  rw[su hw];cases jj:E.fn f with
  |none=>simp only[cO,bU,eN,hf,ha,oM,jj,hz,h1,if_true,aNj]
  |some fi=>
   obtain⟨code,ntmps,results,pu,du⟩:=fi
   have:=hp _ jj
   simp only at this;subst this;simp only[cO,bU,eN,hf,ha,oM,jj,hz,h1,if_true,aNj]
 rw[fK];exact Dh (uV l1) (qT l1) (xX l1) k1
theorem ft.ops{E:Env}{ops:List Oper}{q:List AV->Hp->Prop}:∀{rest:List Oper} {ts:List AV} {H:Hp},ft E ops rest ts H q->J9 E ops rest ts H q
 |[],ts,H,h=>J9.nil h
 |o::rest,ts,H,h=>by
  unfold ft u9 at h;by_cases hw:bU ops ts o=true
  ·rw[if_pos hw]at h;unfold Kc at h;split at h
   ·rename_i fo args eg h1;obtain⟨d,op,t,p,af,g⟩:=o;simp only at h1;subst h1;split at h
    ·rename_i f first cap al e1 e2
     obtain⟨vS,bs,r,g1,g2,g3⟩:=h;exact J9.UU hw e1 e2 g1 g2 (ft.ops g3)
    ·exact h.elim
   ·split at h
    ·rename_i yV e fK;exact J9.step (by rw[su hw];exact fK) (ft.ops h)
    ·exact h.elim
  ·rw[if_neg hw]at h;exact J9.step (ur hw) (ft.ops h)
theorem Cv.run{E:Env}{id:Nat}{ops:Array Oper}{ts:List AV}{H:Hp}{Q:Ex->List AV->Hp->Prop}(h:ft E ops.toList ops.toList ts H (Q .normal)):Cv E (.region id ops false) ts H Q:=Cv.region h.ops
section
variable{E:Env}{ops rest:List Oper}{ts:List AV}{H:Hp}{q:List AV->Hp->Prop}{d t:Nat}{p:String}{af:Array Edge}
theorem cz:ft E ops [] ts H q=q ts H:=rfl
theorem qq{o:Oper}(hg:o.guard=none)(hc:∀c,o.op=.call c->∀f,c.callee≠ .value f):ft E ops (o::rest) ts H q=(match cO E LQ yg yg false ops H.length o ts H with
  |some (yV,e)=>ft E ops rest yV (e.app H) q
  |none=>False):=by
 show u9 E ops o ts H _=_
 have hw:bU ops ts o=true:=by unfold bU;rw[hg]
 unfold u9;rw[if_pos hw];unfold Kc
 split
 ·rename_i fo args eg h1;exact absurd rfl (hc _ h1 fo)
 ·rw[<-su hw]
theorem Mj{d:Option Nat}{fo:Operand}{args:Array Operand}{eg:Array Nat}:ft E ops (⟨d,.call {callee:=.value fo,args:=args,argTypes:=eg},t,p,af,none⟩::rest) ts H q=
  (match ch ts fo,nL ts args.toList with
  |some (.func f first cap),some al=>∃vS bs r,bW H (first++al++cap)=some (vS,bs)/\mw E f vS r/\ft E ops rest (bQ d r ts) ((if bJ r then cJ.looks bs else cJ.marks bs).app H) q
  |_,_=>False):=by
 show u9 E ops _ ts H _=_
 unfold u9;rw[if_pos (show bU ops ts _=true from rfl)];rfl
theorem run_move{x:Operand}:ft E ops (⟨some d,.move x,t,p,af,none⟩::rest) ts H q=(match ch ts x with
  |some v=>ft E ops rest (ts.set d v) H q
  |none=>False):=by
 rw[qq rfl (by intro c h;cases h)];cases hx:ch ts x with
 |none=>simp[cO,bU,eN,hx]
 |some v=>rw[ac8 hx];rfl
theorem run_assign{x:Operand}:ft E ops (⟨some d,.assign x,t,p,af,none⟩::rest) ts H q=(match ch ts x with
  |some v=>ft E ops rest (ts.set d v) H q
  |none=>False):=by
 rw[qq rfl (by intro c h;cases h)];cases hx:ch ts x with
 |none=>simp[cO,bU,eN,hx]
 |some v=>rw[Tr hx];rfl
theorem XT{c a b:Operand}:ft E ops (⟨some d,.pick c a b,t,p,af,none⟩::rest) ts H q=(match ch ts c with
  |some (.bool z)=>(match ch ts (if z then a else b)with
   |some v=>ft E ops rest (ts.set d v) H q
   |none=>False)
  |_=>False):=by
 rw[qq rfl (by intro c h;cases h)];cases hc:ch ts c with
 |none=>simp[cO,bU,eN,hc]
 |some u=>
  cases u<;>try (simp[cO,bU,eN,hc];done)
  rename_i z;cases hx:ch ts (if z then a else b)with
  |none=>simp only[cO,bU,eN,hc,hx,if_true,Option.map_none]
  |some v=>rw[ac9 hc hx];simp only[hx];rfl
theorem Tg{op:BinOp}{t1 t2:Nat}{x y:Operand}:ft E ops (⟨some d,.binOp op t1 x y t2,t,p,af,none⟩::rest) ts H q=(match ch ts x,ch ts y with
  |some u,some v=>(match dy E (bK x||bK y) op t1 u v with
   |some r=>ft E ops rest (ts.set d r) H q
   |none=>False)
  |_,_=>False):=by
 rw[qq rfl (by intro c h;cases h)];cases hx:ch ts x with
 |none=>simp[cO,bU,eN,hx]
 |some u=>
  cases hy:ch ts y with
  |none=>simp[cO,bU,eN,hx,hy]
  |some v=>
   cases hr:dy E (bK x||bK y) op t1 u v with
   |none=>simp[cO,bU,eN,hx,hy,hr]
   |some r=>rw[Ye hx hy hr];simp only[hr];rfl
theorem Gk{t1:Nat}{x y:Operand}:ft E ops (⟨some d,.indexAddr t1 x y,t,p,af,none⟩::rest) ts H q=(match ch ts x,ch ts y with
  |some u,some v=>(match cI E t1 u v with
   |some r=>ft E ops rest (ts.set d r) H q
   |none=>False)
  |_,_=>False):=by
 rw[qq rfl (by intro c h;cases h)];cases hx:ch ts x with
 |none=>simp[cO,bU,eN,hx]
 |some u=>
  cases hy:ch ts y with
  |none=>simp[cO,bU,eN,hx,hy]
  |some v=>
   cases hr:cI E t1 u v with
   |none=>simp[cO,bU,eN,hx,hy,hr]
   |some r=>rw[JH hx hy hr];simp only[hr];rfl
theorem run_load{t1:Nat}{x:Operand}:ft E ops (⟨some d,.load t1 x,t,p,af,none⟩::rest) ts H q=(match ch ts x with
  |some u=>(match gl E H t1 u with
   |some r=>ft E ops rest (ts.set d r) H q
   |none=>False)
  |none=>False):=by
 rw[qq rfl (by intro c h;cases h)];cases hx:ch ts x with
 |none=>simp[cO,bU,eN,hx]
 |some u=>
  cases hr:gl E H t1 u with
  |none=>simp[cO,bU,eN,hx,hr]
  |some r=>rw[ac7 hx hr];simp only[hr];rfl
theorem run_store{t1:Nat}{x y:Operand}:ft E ops (⟨none,.store t1 x y,t,p,af,none⟩::rest) ts H q=(match ch ts x,ch ts y with
  |some u,some v=>(match iC E H t1 u v with
   |some l=>ft E ops rest ts ((cJ.bM l).app H) q
   |none=>False)
  |_,_=>False):=by
 rw[qq rfl (by intro c h;cases h)];cases hx:ch ts x with
 |none=>simp[cO,bU,eN,hx]
 |some u=>
  cases hy:ch ts y with
  |none=>simp[cO,bU,eN,hx,hy]
  |some v=>
   cases hr:iC E H t1 u v with
   |none=>simp[cO,bU,eN,hx,hy,hr]
   |some l=>rw[Yf hx hy hr];simp only[hr]
theorem Tf{t1:Nat}:ft E ops (⟨some d,.alloc t1,t,p,af,none⟩::rest) ts H q=(match gX E t1 with
  |some z=>ft E ops rest (ts.set d (.b6 H.length 0)) ((cJ.bM [(H.length,.cells .live z.cells)]).app H) q
  |none=>False):=by
 rw[qq rfl (by intro c h;cases h)];cases hz:gX E t1 with
 |none=>simp[cO,bU,eN,hz]
 |some z=>rw[Yd hz]
theorem Mi{bi:Builtin}{args:Array Operand}{eg:Array Nat}:ft E ops (⟨some d,.call {callee:=.builtin bi,args:=args,argTypes:=eg},t,p,af,none⟩::rest) ts H q=(match nL ts args.toList with
  |some al=>(match aZ E H H.length bi eg.toList al with
   |some (r,l)=>ft E ops rest (ts.set d r) ((cJ.bM l).app H) q
   |none=>False)
  |none=>False):=by
 rw[qq rfl (by intro c h f hf;cases h;cases hf)];cases ha:nL ts args.toList with
 |none=>simp[cO,bU,eN,ha]
 |some al=>
  cases hr:aZ E H H.length bi eg.toList al with
  |none=>simp[cO,bU,eN,ha,hr]
  |some x=>
   obtain⟨r,l⟩:=x;rw[PI ha hr];simp only[hr]
theorem Ti{t1:Nat}{x:Operand}{lo hi:Option Operand}{ti:yT}(ht:E.ty t1=some ti)(hna:ti.isAgg=(match ti.cS with|.struct _|.array .. =>true|_=>false))(ha:ti.isAgg=false):
  ft E ops (⟨some d,.slice t1 x lo hi none,t,p,af,none⟩::rest) ts H q=(match ch ts x,jc ts lo,jc ts hi with
  |some u,some l,some h=>(match iM E t1 u l h with
   |some r=>ft E ops rest (ts.set d r) H q
   |none=>False)
  |_,_,_=>False):=by
 rw[qq rfl (by intro c h;cases h)];have fK:∀u l h,ch ts x=some u->jc ts lo=some l->jc ts hi=some h->∀r,iM E t1 u l h=r->
   cO E LQ yg yg false ops H.length ⟨some d,.slice t1 x lo hi none,t,p,af,none⟩ ts H=(r.map fun r=>(ts.set d r,cJ.bM [])):=by
  intro u l h h1 h2 h3 r hr;subst hr;obtain⟨cS,isAgg,size,bytes,zero,eQ⟩:=ti;simp only at ha hna;subst ha;cases cS<;>simp at hna<;>(simp only[cO,bU,eN,h1,h2,h3,ht,bQ,if_true];cases iM E t1 u l h<;>rfl)
 cases hx:ch ts x with
 |none=>simp[cO,bU,eN,hx]
 |some u=>
  cases hl:jc ts lo with
  |none=>simp[cO,bU,eN,hx,hl]
  |some l=>
   cases hh:jc ts hi with
   |none=>simp[cO,bU,eN,hx,hl,hh]
   |some h=>
    rw[fK u l h hx hl hh _ rfl];cases hs:iM E t1 u l h with
    |none=>simp only[hs];rfl
    |some r=>simp only[hs];rfl
def wc(ops:List Oper)(j:Nat):Option Nat:=(ops[j]?).bind (·.dst)
def Gy:AV->Option Bool
 |.bool b=>some b
 |_=>none
theorem Th{d:Option Nat}{op:Op}{j:Nat}{want:Bool}:ft E ops (⟨d,op,t,p,af,some (j,want)⟩::rest) ts H q=
  (if(wc ops j).bind (fun dj=>Gy (gt ts dj))=some want then ft E ops (⟨d,op,t,p,af,none⟩::rest) ts H q
   else ft E ops rest (bQ d aX ts) H q):=by
 have hw:bU ops ts ⟨d,op,t,p,af,some (j,want)⟩=true↔(wc ops j).bind (fun dj=>Gy (gt ts dj))=some want:=by
  unfold bU wc;cases hj:(ops[j]?).bind (·.dst)with
  |none=>simp[hj]
  |some dj=>
   simp only[hj,aOS];unfold gt;cases hv:ts[dj]? with
   |none=>simp[Gy,aX]
   |some v=>cases v<;>simp[Gy]
 show u9 E ops _ ts H _=_
 unfold u9;by_cases h:bU ops ts ⟨d,op,t,p,af,some (j,want)⟩=true
 ·rw[if_pos h,if_pos (hw.1 h)];show _=u9 E ops _ ts H _
  unfold u9;rw[if_pos (show bU ops ts ⟨d,op,t,p,af,none⟩=true from rfl)];rfl
 ·rw[if_neg h,if_neg (fun q=>h (hw.2 q))]
end
def cu(r:Option AV)(k:AV->Prop):Prop:=match r with
 |some v=>k v
 |none=>False
theorem aP{v:AV}{k:AV->Prop}:cu (some v) k=k v:=rfl
@[congr] theorem af4 {a b:Option AV} {k:AV->Prop} (h:a=b):cu a k=cu b k:=by rw[h]
def sE(r:Option (AV×List (Nat×cG)))(k:AV×List (Nat×cG)->Prop):Prop:=match r with
 |some v=>k v
 |none=>False
theorem cW{v:AV×List (Nat×cG)}{k:AV×List (Nat×cG)->Prop}:sE (some v) k=k v:=rfl
@[congr] theorem af5 {a b:Option (AV×List (Nat×cG))} {k:AV×List (Nat×cG)->Prop} (h:a=b):sE a k=sE b k:=by rw[h]
def AJ(r:Option (List (Nat×cG)))(k:List (Nat×cG)->Prop):Prop:=match r with
 |some v=>k v
 |none=>False
theorem dU{v:List (Nat×cG)}{k:List (Nat×cG)->Prop}:AJ (some v) k=k v:=rfl
@[congr] theorem af3 {a b:Option (List (Nat×cG))} {k:List (Nat×cG)->Prop} (h:a=b):AJ a k=AJ b k:=by rw[h]
def pK(c:Bool)(a b:Prop):Prop:=if c=true then a else b
theorem jt{a b:Prop}:pK true a b=a:=by simp[pK]
theorem fR{a b:Prop}:pK false a b=b:=by simp[pK]
@[congr] theorem afX {c d:Bool} {a b:Prop} (h:c=d):pK c a b=pK d a b:=by rw[h]
@[congr] theorem akc {E:Env} {ops rest:List Oper} {ts df:List AV} {H H':Hp} {q:List AV->Hp->Prop} (h1:ts=df) (h2:H=H'):ft E ops rest ts H q=ft E ops rest df H' q:=by rw[h1,h2]
def N0(ts:List AV):Operand->AV
 |.tmp i=>gt ts i
 |.const (.int k n)=>.int k n
 |.const (.bool b)=>.bool b
 |.const (.slice none 0 0)=>.aH
 |.const (.string s)=>.str s.data.toList
 |.func f=>.func f [] []
 |.global g=>.rX g 0
 |_=>aX
def qA:Operand->Bool
 |.tmp _|.const (.int ..)|.const (.bool _)|.const (.slice none 0 0)|.const (.string _)|.func _|.global _=>true
 |_=>false
theorem tN{ts:List AV}{x:Operand}(h:qA x=true):ch ts x=some (N0 ts x):=by
 unfold qA at h;split at h<;>first|rfl|cases h
def agX(ts:List AV)(l:List Operand):List AV:=l.map (N0 ts)
theorem ael{ts:List AV}:∀{l:List Operand},l.all qA=true->nL ts l=some (agX ts l)
 |[],_=>rfl
 |x::l,h=>by
  simp only[aOV,aMq]at h;simp only[nL,tN h.1,ael h.2,agX,List.map_cons]
def Hv(c a b:AV):Option AV:=match c with
 |.bool z=>some (if z then a else b)
 |_=>none
theorem Fc{a b:AV}:Hv (.bool true) a b=some a:=rfl
theorem Cl{a b:AV}:Hv (.bool false) a b=some b:=rfl
def sR(ops:List Oper)(ts:List AV)(j:Nat)(want:Bool):Bool:=match wc ops j with
 |some dj=>Gy (gt ts dj)==some want
 |none=>false
section
variable{E:Env}{ops rest:List Oper}{ts:List AV}{H:Hp}{q:List AV->Hp->Prop}{d t:Nat}{p:String}{af:Array Edge}
theorem acK{x:Operand}(h:qA x=true):ft E ops (⟨some d,.move x,t,p,af,none⟩::rest) ts H q=ft E ops rest (ts.set d (N0 ts x)) H q:=by rw[run_move,tN h]
theorem Bv{x:Operand}(h:qA x=true):ft E ops (⟨some d,.assign x,t,p,af,none⟩::rest) ts H q=ft E ops rest (ts.set d (N0 ts x)) H q:=by rw[run_assign,tN h]
theorem acL{c a b:Operand}(hc:qA c=true)(ha:qA a=true)(hb:qA b=true):ft E ops (⟨some d,.pick c a b,t,p,af,none⟩::rest) ts H q=
  cu (Hv (N0 ts c) (N0 ts a) (N0 ts b)) fun v=>ft E ops rest (ts.set d v) H q:=by
 rw[XT,tN hc];cases hq:N0 ts c<;>try rfl
 rename_i z;cases z
 ·simp only[aLs,if_false,tN hb,Hv];rfl
 ·simp only[if_true,tN ha,Hv];rfl
theorem Me{op:BinOp}{t1 t2:Nat}{x y:Operand}(hx:qA x=true)(hy:qA y=true):ft E ops (⟨some d,.binOp op t1 x y t2,t,p,af,none⟩::rest) ts H q=
  cu (dy E (bK x||bK y) op t1 (N0 ts x) (N0 ts y)) fun r=>ft E ops rest (ts.set d r) H q:=by
 rw[Tg,tN hx,tN hy];rfl
theorem JA{t1:Nat}{x y:Operand}(hx:qA x=true)(hy:qA y=true):ft E ops (⟨some d,.indexAddr t1 x y,t,p,af,none⟩::rest) ts H q=
  cu (cI E t1 (N0 ts x) (N0 ts y)) fun r=>ft E ops rest (ts.set d r) H q:=by
 rw[Gk,tN hx,tN hy];rfl
theorem acJ{t1:Nat}{x:Operand}(hx:qA x=true):ft E ops (⟨some d,.load t1 x,t,p,af,none⟩::rest) ts H q=
  cu (gl E H t1 (N0 ts x)) fun r=>ft E ops rest (ts.set d r) H q:=by
 rw[run_load,tN hx];rfl
theorem XK{t1:Nat}{x y:Operand}(hx:qA x=true)(hy:qA y=true):ft E ops (⟨none,.store t1 x y,t,p,af,none⟩::rest) ts H q=
  AJ (iC E H t1 (N0 ts x) (N0 ts y)) fun l=>ft E ops rest ts ((cJ.bM l).app H) q:=by
 rw[run_store,tN hx,tN hy];rfl
theorem XJ{t1:Nat}:ft E ops (⟨some d,.alloc t1,t,p,af,none⟩::rest) ts H q=
  cu (gX E t1) fun z=>ft E ops rest (ts.set d (.b6 H.length 0)) ((cJ.bM [(H.length,.cells .live z.cells)]).app H) q:=by
 rw[Tf];rfl
theorem Pq{bi:Builtin}{args:Array Operand}{eg:Array Nat}(h:args.toList.all qA=true):ft E ops (⟨some d,.call {callee:=.builtin bi,args:=args,argTypes:=eg},t,p,af,none⟩::rest) ts H q=
  sE (aZ E H H.length bi eg.toList (agX ts args.toList)) fun x=>ft E ops rest (ts.set d x.1) ((cJ.bM x.2).app H) q:=by
 rw[Mi,ael h];simp only;unfold sE
 split<;>simp_all
theorem uh{d:Option Nat}{op:Op}{j:Nat}{want:Bool}:ft E ops (⟨d,op,t,p,af,some (j,want)⟩::rest) ts H q=
  pK (sR ops ts j want) (ft E ops (⟨d,op,t,p,af,none⟩::rest) ts H q) (ft E ops rest (bQ d aX ts) H q):=by
 rw[Th];unfold pK sR;cases wc ops j with
 |none=>simp
 |some dj=>simp only[aOS,beq_iff_eq]
end
section
variable{E:Env}{ops rest:List Oper}{ts:List AV}{H:Hp}{q:List AV->Hp->Prop}{d t:Nat}{p:String}{af:Array Edge}
theorem jg{i0:Nat}:ft E ops (⟨some d,.move (.tmp i0),t,p,af,none⟩::rest) ts H q=ft E ops rest (ts.set d (gt ts i0)) H q:=acK rfl
theorem o0{i0:Nat}:ft E ops (⟨some d,.assign (.tmp i0),t,p,af,none⟩::rest) ts H q=ft E ops rest (ts.set d (gt ts i0)) H q:=Bv rfl
theorem oZ{k0:IntKind}{z0:Int}:ft E ops (⟨some d,.assign (.const (.int k0 z0)),t,p,af,none⟩::rest) ts H q=ft E ops rest (ts.set d (.int k0 z0)) H q:=Bv rfl
theorem Pl:ft E ops (⟨some d,.assign (.const (.slice none 0 0)),t,p,af,none⟩::rest) ts H q=ft E ops rest (ts.set d (.aH)) H q:=Bv rfl
theorem Ag{i0:Nat}{i1:Nat}{op:BinOp}{t1 t2:Nat}:ft E ops (⟨some d,.binOp op t1 (.tmp i0) (.tmp i1) t2,t,p,af,none⟩::rest) ts H q=cu (dy E false op t1 (gt ts i0) (gt ts i1)) fun r=>ft E ops rest (ts.set d r) H q:=Me rfl rfl
theorem qb{i0:Nat}{k1:IntKind}{z1:Int}{op:BinOp}{t1 t2:Nat}:ft E ops (⟨some d,.binOp op t1 (.tmp i0) (.const (.int k1 z1)) t2,t,p,af,none⟩::rest) ts H q=cu (dy E true op t1 (gt ts i0) (.int k1 z1)) fun r=>ft E ops rest (ts.set d r) H q:=Me rfl rfl
theorem Dj{i0:Nat}{i1:Nat}{t1:Nat}:ft E ops (⟨some d,.indexAddr t1 (.tmp i0) (.tmp i1),t,p,af,none⟩::rest) ts H q=cu (cI E t1 (gt ts i0) (gt ts i1)) fun r=>ft E ops rest (ts.set d r) H q:=JA rfl rfl
theorem Rc{i0:Nat}{i1:Nat}{t1:Nat}:ft E ops (⟨none,.store t1 (.tmp i0) (.tmp i1),t,p,af,none⟩::rest) ts H q=AJ (iC E H t1 (gt ts i0) (gt ts i1)) fun l=>ft E ops rest ts ((cJ.bM l).app H) q:=XK rfl rfl
theorem acx{i0:Nat}{t1:Nat}:ft E ops (⟨some d,.load t1 (.tmp i0),t,p,af,none⟩::rest) ts H q=cu (gl E H t1 (gt ts i0)) fun r=>ft E ops rest (ts.set d r) H q:=acJ rfl
theorem xS{i0:Nat}{i1:Nat}{b2:Bool}:ft E ops (⟨some d,.pick (.tmp i0) (.tmp i1) (.const (.bool b2)),t,p,af,none⟩::rest) ts H q=cu (Hv (gt ts i0) (gt ts i1) (.bool b2)) fun v=>ft E ops rest (ts.set d v) H q:=acL rfl rfl rfl
theorem Co{i0 t1:Nat}:ft E ops (⟨some d,.call {callee:=.builtin .len,args:=#[.tmp i0],argTypes:=#[t1]},t,p,af,none⟩::rest) ts H q=sE (aZ E H H.length .len [t1] [gt ts i0]) fun x=>ft E ops rest (ts.set d x.1) ((cJ.bM x.2).app H) q:=Pq rfl
end
section
variable{E:Env}{c:Bool}{t:Nat}{k:IntKind}{a b:Int}
theorem mT:dy E c .add t (.int k a) (.int k b)=some (.int k (aV k (a+b))):=by simp[dy,wP]
theorem oR:dy E c .sub t (.int k a) (.int k b)=some (.int k (aV k (a-b))):=by simp[dy,wP]
theorem NA:dy E c .mul t (.int k a) (.int k b)=some (.int k (aV k (a*b))):=by simp[dy,wP]
theorem Nz:dy E c .eql t (.int k a) (.int k b)=some (.bool (a==b)):=by simp[dy,wP]
theorem NB:dy E c .neq t (.int k a) (.int k b)=some (.bool (a !=b)):=by simp[dy,wP]
theorem iI:dy E c .lss t (.int k a) (.int k b)=some (.bool (decide (a<b))):=by simp[dy,wP]
theorem AP:dy E c .gtr t (.int k a) (.int k b)=some (.bool (decide (a>b))):=by simp[dy,wP]
theorem AO:dy E c .geq t (.int k a) (.int k b)=some (.bool (decide (a≥b))):=by simp[dy,wP]
theorem ago(h:b≠0):dy E c .quo t (.int k a) (.int k b)=some (.int k (aV k (a.tdiv b))):=by simp[dy,wP,h]
theorem DH(h:b≠0):dy E c .rem t (.int k a) (.int k b)=some (.int k (a.tmod b)):=by simp[dy,wP,h]
theorem PT{x:Bool}:YP .not (.bool x)=some (.bool (!x)):=rfl
end
theorem Xj{E:Env}{pc:Pc}{ic yc:Ic}{dr dr':Bool}{ts:List AV}{H:Hp}{aM:Nat}{o:Oper}(hc:oe o=false):eN E pc ic yc dr ts H aM o=eN E pc ic yc dr' ts H aM o:=by
 obtain⟨d,op,t,p,af,g⟩:=o;cases op<;>try rfl
 case makeFunc fn a b=>cases fn<;>rfl
 case next it s=>cases s<;>rfl
 case call c=>
  obtain⟨callee,args,eg⟩:=c;cases callee<;>first|rfl|(simp[oe]at hc;done)
theorem HP{E:Env}{pc:Pc}{ic yc:Ic}{dr dr':Bool}{ops:List Oper}{ts:List AV}{H:Hp}{aM nid':Nat}{o:Oper}(hl:ck E o=false)(hc:oe o=false):
  cO E pc ic yc dr ops aM o ts H=cO E pc ic yc dr' ops nid' o ts H:=by
 unfold cO;rw[Xj (dr':=dr') hc,Dg (nid':=nid') hl]
theorem qI.UU{E:Env}{ops rest:List Oper}{aM:Nat}{ts:List AV}{H:Hp}{Q:List AV->Hp->Prop}{d:Option Nat}{t:Nat}{p:String}{af:Array Edge}{g:Option (Nat×Bool)}{fo:Operand}{args:Array Operand}{eg:Array Nat}{f:Nat}{first cap al vS:List AV}{bs:List Nat}{r:AV}
  (hw:bU ops ts ⟨d,.call {callee:=.value fo,args:=args,argTypes:=eg},t,p,af,g⟩=true)
  (hf:ch ts fo=some (.func f first cap)) (ha:nL ts args.toList=some al) (hz:bW H (first++al++cap)=some (vS,bs)) (hc:mw E f vS r)
  (h:qI E ops rest aM (bQ d r ts) ((if bJ r then cJ.looks bs else cJ.marks bs).app H) fun df H' _=>Q df H'):
  qI E ops (⟨d,.call {callee:=.value fo,args:=args,argTypes:=eg},t,p,af,g⟩::rest) aM ts H fun df H' _=>Q df H':=by
 obtain⟨n,df,H',l,k1,k2⟩:=h;obtain⟨hp,m,hm⟩:=hc;have l1:=jd (E:=E) (aOD n m);refine⟨max n m,df,H',bI E ts ⟨d,.call {callee:=.value fo,args:=args,argTypes:=eg},t,p,af,g⟩ (if bJ r then cJ.looks bs else cJ.marks bs)::l,?_,k2⟩;unfold tn;have h1:qc E (dJ E (max n m)) f vS=some r:=qM (aOC n m) _ _ _ hm;rw[show ck E ⟨d,.call {callee:=.value fo,args:=args,argTypes:=eg},t,p,af,g⟩=false from rfl];simp only[Bool.false_and,aLs,if_false];have fK:cO E (qc E (dJ E (max n m))) (um E (dJ E (max n m))) (yi (dJ E (max n m))) true ops aM ⟨d,.call {callee:=.value fo,args:=args,argTypes:=eg},t,p,af,g⟩ ts H=some (bQ d r ts,if bJ r then cJ.looks bs else cJ.marks bs):=by
  rw[su hw];cases jj:E.fn f with
  |none=>simp only[cO,bU,eN,hf,ha,oM,jj,hz,h1,if_true,aNj]
  |some fi=>
   obtain⟨code,ntmps,results,pu,du⟩:=fi
   have:=hp _ jj
   simp only at this;subst this;simp only[cO,bU,eN,hf,ha,oM,jj,hz,h1,if_true,aNj]
 rw[fK];simp only[Ad (uV l1) (qT l1) (xX l1) k1]
theorem ft.tn{E:Env}{ops:List Oper}{q:List AV->Hp->Prop}{aM:Nat}:∀{rest:List Oper} {ts:List AV} {H:Hp},rest.all (fun o=>!ck E o)=true->ft E ops rest ts H q->qI E ops rest aM ts H fun df H' _=>q df H'
 |[],ts,H,_,h=>qI.nil h
 |o::rest,ts,H,hl,h=>by
  simp only[aOV,aMq,aMd]at hl;have wL:rest.all (fun o=>!ck E o)=true:=by simpa using hl.2
  unfold ft u9 at h;by_cases hw:bU ops ts o=true
  ·rw[if_pos hw]at h;unfold Kc at h;split at h
   ·rename_i fo args eg h1;obtain⟨d,op,t,p,af,g⟩:=o;simp only at h1;subst h1;split at h
    ·rename_i f first cap al e1 e2
     obtain⟨vS,bs,r,g1,g2,g3⟩:=h;exact qI.UU hw e1 e2 g1 g2 (ft.tn wL g3)
    ·exact h.elim
   ·rename_i hnc;have hc:oe o=false:=by
     unfold oe
     split
     ·rename_i c T9
      split
      ·rename_i f pT;obtain⟨callee,args,eg⟩:=c;simp only at pT;subst pT;exact absurd T9 (hnc f args eg)
      ·rfl
     ·rfl
    split at h
    ·rename_i yV e fK;refine qI.step hl.1 ?_ (ft.tn wL h);rw[<-su hw]at fK;rw[HP (dr':=false) (nid':=H.length) hl.1 hc];exact fK
    ·exact h.elim
  ·rw[if_neg hw]at h;exact qI.step hl.1 (ur hw) (ft.tn wL h)
theorem Cv.Bw{E:Env}{id:Nat}{ops:Array Oper}{ts:List AV}{H:Hp}{Q:Ex->List AV->Hp->Prop}(hl:ops.toList.all (fun o=>!ck E o)=true)(hp:E.pairs id ops.toList.length=[])
  (h:ft E ops.toList ops.toList ts H (Q .normal)):Cv E (.region id ops true) ts H Q:=by
 refine Cv.Rd ?_ ?_
 ·rw[aOW];intro o ho
  have:=aMa.1 hl o ho
  simpa using this
 ·obtain⟨n,df,H',l,h1,h2⟩:=ft.tn (aM:=H.length) hl h;exact⟨n,df,H',l,h1,by rw[hp];rfl,h2⟩
section
variable{E:Env}{ops rest:List Oper}{ts:List AV}{H:Hp}{q:List AV->Hp->Prop}{d t:Nat}{p:String}{af:Array Edge}
theorem ajG{f:Nat}{args:Array Operand}{eg:Array Nat}{al:List AV}{r:AV}(ha:nL ts args.toList=some al)(hz:bE al=true)(hc:mw E f al r)(h:ft E ops rest (ts.set d r) H q):
  ft E ops (⟨some d,.call {callee:=.value (.func f),args:=args,argTypes:=eg},t,p,af,none⟩::rest) ts H q:=by
 rw[Mj];simp only[oT,ha];refine⟨al,[],r,?_,hc,?_⟩
 ·unfold bW;simp[hz]
 ·have:∀(e:cJ),e=(if bJ r=true then cJ.looks []else cJ.marks [])->e.app H=H:=by
   intro e he;subst he;split<;>rfl
  rw[this _ rfl];exact h
theorem Rb{t1:Nat}{ps:Array (Nat×Operand)}{pl:Nat->Option (Nat×Nat)}{z cs:List AV}{vs:List (Nat×AV)}(hp:gQ E t1=some pl)(hz:(E.ty t1).bind (·.zero)=some z)(he:xH ts ps.toList=some vs)(hf:hZ pl z vs=some cs):
  ft E ops (⟨some d,.build t1 ps,t,p,af,none⟩::rest) ts H q=ft E ops rest (ts.set d (.agg cs)) H q:=by
 rw[qq rfl (by intro c h;cases h)];simp only[cO,bU,eN,hp,hz,he,hf,if_true,aNj,bQ];rfl
end
theorem DK{E:Env}{f:Nat}{fi:FnI}{args:List AV}{G:AV->Prop}(mG:E.ov f args=none)(jj:E.fn f=some fi)(hp:fi.pure=true)
  (h:Cv E fi.code (args++List.replicate (fi.ntmps-args.length) aX) [] fun ex ts H=>(∀id,ex≠ .exit id)/\∃rs r bs,iU H E ts fi.results=some rs/\bW H [kE rs]=some ([r],bs)/\G r):∃r,mw E f args r/\G r:=by
 obtain⟨n,ex,ts,H,h1,h2,rs,r,bs,h3,h4,h5⟩:=h;refine⟨r,⟨fun fi' h'=>(by rw[jj]at h';cases h';exact hp),n,?_⟩,h5⟩;unfold call qc;simp only[mG,jj,hp,Bool.true_or,Bool.not_true,aLs,if_false,h1];cases ex with
 |exit id=>exact absurd rfl (h2 id)
 |normal=>simp only[h3,h4]
 |ret=>simp only[h3,h4]
theorem KM{H:Hp}{v:AV}(h:aN v=true):bW H [v]=some ([v],[]):=by unfold bW;simp[bE,h]
def quiet(o:Oper):Bool:=match o.op with
 |.move _|.assign _|.pick .. |.load .. |.binOp .. |.unOp .. |.fieldAddr .. |.field .. |.indexAddr .. |.extract .. |.build .. =>true
 |.call c=>(match c.callee with|.value _=>true|_=>false)
 |_=>false
def calm:cJ->Bool
 |.bM []|.looks _|.marks _|.vK _=>true
 |_=>false
theorem yR{E:Env}{ts:List AV}{o:Oper}{e:cJ}(h:calm e=true):(bI E ts o e).2=[]:=by
 unfold bI
 split
 ·rfl
 ·cases e with
  |bM l=>cases l with
   |nil=>rfl
   |cons a l=>cases h
  |_=>rfl
theorem LL{x:Option AV}{v:AV}{e:cJ}(h:(x.map fun x=>(x,cJ.bM []))=some (v,e)):calm e=true:=by
 cases x with
 |none=>cases h
 |some x=>simp only[aNj,aLv.injEq,Prod.mk.injEq]at h;rw[<-h.2];rfl
theorem Pk{E:Env}{ops:List Oper}{aM:Nat}{o:Oper}{ts yV:List AV}{H:Hp}{e:cJ}(hq:quiet o=true)(hc:oe o=false)(h:cO E LQ yg yg false ops aM o ts H=some (yV,e)):calm e=true:=by
 unfold cO at h;split at h
 ·split at h
  ·rename_i v e' ho;simp only[aLv.injEq,Prod.mk.injEq]at h;obtain⟨_,rfl⟩:=h;obtain⟨d,op,t,p,af,g⟩:=o;cases op<;>simp only[quiet,aLs]at hq<;>simp only[eN]at ho
   all_goals first
    |exact LL ho
    |(repeat' split at ho)<;>first|exact LL ho|(cases ho;done)|skip
   all_goals (simp[oe]at hc)
   all_goals (split at hq<;>simp_all)
  ·cases h
 ·simp only[aLv.injEq,Prod.mk.injEq]at h;rw[<-h.2];rfl
theorem qI.al8{E:Env}{ops rest:List Oper}{aM:Nat}{ts:List AV}{H:Hp}{Q:List AV->Hp->List (List Nat×List Nat)->Prop}{d:Option Nat}{t:Nat}{p:String}{af:Array Edge}{g:Option (Nat×Bool)}{fo:Operand}{args:Array Operand}{eg:Array Nat}{f:Nat}{first cap al vS:List AV}{bs:List Nat}{r:AV}
  (hw:bU ops ts ⟨d,.call {callee:=.value fo,args:=args,argTypes:=eg},t,p,af,g⟩=true)
  (hf:ch ts fo=some (.func f first cap)) (ha:nL ts args.toList=some al) (hz:bW H (first++al++cap)=some (vS,bs)) (hc:mw E f vS r)
  (h:qI E ops rest aM (bQ d r ts) ((if bJ r then cJ.looks bs else cJ.marks bs).app H) fun df H' l=>∀x,x.2=[]->Q df H' (x::l)):
  qI E ops (⟨d,.call {callee:=.value fo,args:=args,argTypes:=eg},t,p,af,g⟩::rest) aM ts H Q:=by
 obtain⟨n,df,H',l,k1,k2⟩:=h;obtain⟨hp,m,hm⟩:=hc;have l1:=jd (E:=E) (aOD n m);refine⟨max n m,df,H',bI E ts ⟨d,.call {callee:=.value fo,args:=args,argTypes:=eg},t,p,af,g⟩ (if bJ r then cJ.looks bs else cJ.marks bs)::l,?_,k2 _ (yR (by split<;>rfl))⟩;unfold tn;have h1:qc E (dJ E (max n m)) f vS=some r:=qM (aOC n m) _ _ _ hm;rw[show ck E ⟨d,.call {callee:=.value fo,args:=args,argTypes:=eg},t,p,af,g⟩=false from rfl];simp only[Bool.false_and,aLs,if_false];have fK:cO E (qc E (dJ E (max n m))) (um E (dJ E (max n m))) (yi (dJ E (max n m))) true ops aM ⟨d,.call {callee:=.value fo,args:=args,argTypes:=eg},t,p,af,g⟩ ts H=some (bQ d r ts,if bJ r then cJ.looks bs else cJ.marks bs):=by
  rw[su hw];cases jj:E.fn f with
  |none=>simp only[cO,bU,eN,hf,ha,oM,jj,hz,h1,if_true,aNj]
  |some fi=>
   obtain⟨code,ntmps,results,pu,du⟩:=fi
   have:=hp _ jj
   simp only at this;subst this;simp only[cO,bU,eN,hf,ha,oM,jj,hz,h1,if_true,aNj]
 rw[fK];simp only[Ad (uV l1) (qT l1) (xX l1) k1]
def QL(rest:List Oper)(l:List (List Nat×List Nat)):Prop:=∀(j:Nat) (o:Oper) (t:List Nat×List Nat),rest[j]?=some o->l[j]?=some t->quiet o=true->t.2=[]
theorem QL.cons{o:Oper}{rest:List Oper}{x:List Nat×List Nat}{l:List (List Nat×List Nat)}(h:QL rest l)(hx:quiet o=true->x.2=[]):QL (o::rest) (x::l):=by
 intro j o' t h1 h2 hq;cases j with
 |zero=>
  simp only[List.getElem?_cons_zero,aLv.injEq]at h1 h2;subst h1;subst h2
  exact hx hq
 |succ j=>exact h j o' t (by simpa using h1) (by simpa using h2) hq
theorem ft.ab6{E:Env}{ops:List Oper}{q:List AV->Hp->Prop}{aM:Nat}:∀{rest:List Oper} {ts:List AV} {H:Hp},rest.all (fun o=>!ck E o)=true->ft E ops rest ts H q->qI E ops rest aM ts H fun df H' l=>q df H'/\QL rest l
 |[],ts,H,_,h=>qI.nil ⟨h,by intro j o t h1;simp at h1⟩
 |o::rest,ts,H,hl,h=>by
  simp only[aOV,aMq,aMd]at hl;have wL:rest.all (fun o=>!ck E o)=true:=by simpa using hl.2
  unfold ft u9 at h;by_cases hw:bU ops ts o=true
  ·rw[if_pos hw]at h;unfold Kc at h;split at h
   ·rename_i fo args eg h1;obtain⟨d,op,t,p,af,g⟩:=o;simp only at h1;subst h1;split at h
    ·rename_i f first cap al e1 e2
     obtain⟨vS,bs,r,g1,g2,g3⟩:=h;refine qI.al8 hw e1 e2 g1 g2 ?_;obtain⟨n,df,H',l,k1,k2,k3⟩:=ft.ab6 (aM:=aM) wL g3;exact⟨n,df,H',l,k1,fun x hx=>⟨k2,k3.cons fun _=>hx⟩⟩
    ·exact h.elim
   ·rename_i hnc;have hc:oe o=false:=by
     unfold oe
     split
     ·rename_i c T9
      split
      ·rename_i f pT;obtain⟨callee,args,eg⟩:=c;simp only at pT;subst pT;exact absurd T9 (hnc f args eg)
      ·rfl
     ·rfl
    split at h
    ·rename_i yV e fK;rw[<-su hw]at fK;have abi:=fK;rw[HP (dr':=true) (nid':=aM) hl.1 hc]at abi;refine qI.step hl.1 abi ?_;obtain⟨n,df,H',l,k1,k2,k3⟩:=ft.ab6 (aM:=aM) wL h;exact⟨n,df,H',l,k1,k2,k3.cons fun hq=>yR (Pk hq hc fK)⟩
    ·exact h.elim
  ·rw[if_neg hw]at h;refine qI.step hl.1 (ur hw) ?_;obtain⟨n,df,H',l,k1,k2,k3⟩:=ft.ab6 (aM:=aM) wL h;exact⟨n,df,H',l,k1,k2,k3.cons fun _=>yR rfl⟩
def quietAt(ops:List Oper)(i:Nat):Bool:=match ops[i]? with
 |some o=>quiet o
 |none=>false
theorem Cv.ajJ{E:Env}{id:Nat}{ops:Array Oper}{ts:List AV}{H:Hp}{Q:Ex->List AV->Hp->Prop}(hl:ops.toList.all (fun o=>!ck E o)=true)(hp:(E.pairs id ops.toList.length).all (fun p=>quietAt ops.toList p.1&&quietAt ops.toList p.2)=true)
  (h:ft E ops.toList ops.toList ts H (Q .normal)):Cv E (.region id ops true) ts H Q:=by
 refine Cv.Rd ?_ ?_
 ·rw[aOW];intro o ho
  have:=aMa.1 hl o ho
  simpa using this
 ·obtain⟨n,df,H',l,h1,h2,h3⟩:=ft.ab6 (aM:=H.length) hl h;refine⟨n,df,H',l,h1,?_,h2⟩;rw[aMa]at hp⊢;intro p hpm
  have:=hp p hpm
  simp only[aMq]at this;unfold uS;have q:∀i x,quietAt ops.toList i=true->l[i]?=some x->x.2=[]:=by
   intro i x hq hx;unfold quietAt at hq;cases ho:ops.toList[i]? with
   |none=>rw[ho]at hq;cases hq
   |some o=>rw[ho]at hq;exact h3 i o x ho hx hq
  cases e1:l[p.1]? with
  |none=>rfl
  |some x=>
   cases e2:l[p.2]? with
   |none=>rfl
   |some y=>
    obtain⟨r1,w1⟩:=x;obtain⟨r2,w2⟩:=y;have a:=q _ _ this.1 e1;have b:=q _ _ this.2 e2;simp only at a b;subst a;subst b
    simp[yF]
end Dv
