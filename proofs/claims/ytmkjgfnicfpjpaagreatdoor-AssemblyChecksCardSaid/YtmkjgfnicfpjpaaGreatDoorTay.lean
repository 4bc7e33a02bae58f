/- Lemmas for AssemblyChecks; no condition. -/
import Derived.Test.YtmkjgfnicfpjpaaGreatDoorTax
import Derived.ProofKit
import Derived.LaidMore
import Derived.OpenShut
import Derived.Stop.Joined
import Derived.SevenTiedAt
import Derived.Carry
set_option linter.all false
set_option maxHeartbeats 100000000
set_option maxRecDepth 100000
noncomputable section
open List renaming getElem?_eq_getElem->aLh,getElem?_append_left->aNB,getElem_mem->aLr,getElem?_eq_some_iff->aKB,length_append->aLk,getD_eq_getElem?_getD->aTc,append_assoc->aTs,getElem_of_mem->aWj,all_append->aWo,getElem?_map->aMf,mem_map->aMr,not_mem_nil->aVd,all_nil->aQC,length_eq_zero_iff->aWp,getElem?_set_self->aNv,set_append_left->aVt,getElem?_set_ne->aNt,mem_of_mem_take->aQN,getElem?_of_mem->aLj,mem_cons->aMp,mem_map_of_mem->aWq,take_add_one->aWr,length_take->aOw
open Nat renaming lt_or_eq_of_le->aVr,le_of_lt_succ->aVs,zero_add->aLg,add_assoc->aK5,add_zero->aOx,zero_le->aLo,reduceLT->aa,reduceEqDiff->ae,reduceAdd->ah,reduceLeDiff->ai
open Bool renaming and_eq_true->aMh,and_true->aQq
open Int renaming reduceLE->an,reduceLT->aq,reduceToNat->ar
namespace Go.Proofs.YtmkjgfnicfpjpaaGreatDoor
open Go Dv Dv.dR
variable{E:Env}[C:Ctx E]
def rm(f:Nat->Int):Nat->Nat->Int
 |_,0=>0
 |i,n+1=>if f i≠0 then f i else rm f (i+1) n
def tp{f:Nat->Int}:∀{n i k:Nat},k<n->(∀j,j<k->f (i+j)=0)->f (i+k)≠0->rm f i n=f (i+k)
 |0,_,_,h,_,_=>by omega
 |n+1,i,0,_,_,h=>by simp only[aOx]at h⊢;simp[rm,h]
 |n+1,i,k+1,hk,hj,h=>by
  have h0:=hj 0 (by omega);rw[aOx]at h0;have ih:=tp (f:=f) (n:=n) (i:=i+1) (k:=k) (by omega) (fun j LK=>by have:=hj (j+1) (by omega);rwa[show i+(j+1)=i+1+j by omega]at this) (by rwa[show i+(k+1)=i+1+k by omega]at h);rw[show i+(k+1)=i+1+k by omega];simp[rm,h0,ih]
def mK{f:Nat->Int}:∀{n i:Nat},(∀j,j<n->f (i+j)=0)->rm f i n=0
 |0,_,_=>rfl
 |n+1,i,h=>by
  have h0:=h 0 (by omega);rw[aOx]at h0;have ih:=mK (f:=f) (n:=n) (i:=i+1) fun j hj=>by have:=h (j+1) (by omega);rwa[show i+(j+1)=i+1+j by omega]at this
  simp[rm,h0,ih]
structure sJ where
 sc:nF->Int
 mc:vN->Int
structure uh(E:Env)(K:sJ)(l:se)(m:Ins):Prop where
 sc:∀p∈l,aR E 33 [.agg (sa p)]=some (.int .i64 (K.sc p))
 mc:∀x∈m,aR E 34 [.agg [.int .i64 x.t0,.int .i64 x.t1,.int .i64 x.t2,.int .i64 x.t3,.str x.s0,.str x.s1,.str x.s2]]=some (.int .i64 (K.mc x))
def xd0:vN:=⟨[],[],0,0,0,0,[],[],[]⟩
def fH(l:se):List (List UInt8):=l.map (·.nm)
def kh(m:Ins):List (List UInt8):=m.map (·.nm)
def kX(K:sJ)(l:se)(i:Nat):Int:=if gP (fH (l.take i)) (l.getD i Q6).nm≠0 then gP (fH (l.take i)) (l.getD i Q6).nm else K.sc (l.getD i Q6)
def qO(K:sJ)(l:se)(m:Ins)(i:Nat):Int:=if gP (kh (m.take i)) (m.getD i xd0).nm≠0 then gP (kh (m.take i)) (m.getD i xd0).nm else if(m.getD i xd0).pt∈fH l then K.mc (m.getD i xd0)else 16
def xX(K:sJ)(l:se)(m:Ins):Int:=
 if 64<l.length then 6 else
 if rm (kX K l) 0 l.length≠0 then rm (kX K l) 0 l.length else
 if 12<m.length then 6 else rm (qO K l m) 0 m.length
def IV{K:sJ}{l:se}{m:Ins}(h:64<l.length):xX K l m=6:=by unfold xX;rw[if_pos h]
def V7{K:sJ}{l:se}{m:Ins}(h:¬64<l.length){k:Nat}(hk:k<l.length)(hj:∀j,j<k->kX K l j=0)(h0:kX K l k≠0):xX K l m=kX K l k:=by
 have:=tp (f:=kX K l) (i:=0) hk (fun j LK=>by rw[aLg];exact hj j LK) (by rwa[aLg])
 rw[aLg]at this;unfold xX;rw[if_neg h,this,if_pos h0]
def V6{K:sJ}{l:se}{m:Ins}(h:¬64<l.length)(hj:∀j,j<l.length->kX K l j=0)(h12:12<m.length):xX K l m=6:=by
 have:=mK (f:=kX K l) (i:=0) (n:=l.length) (fun j LK=>by rw[aLg];exact hj j LK)
 unfold xX;rw[if_neg h,this,if_neg (by simp),if_pos h12]
def V5{K:sJ}{l:se}{m:Ins}(h:¬64<l.length)(hp:∀j,j<l.length->kX K l j=0)(h12:¬12<m.length){k:Nat}(hk:k<m.length)(hj:∀j,j<k->qO K l m j=0)(h0:qO K l m k≠0):xX K l m=qO K l m k:=by have h1:=mK (f:=kX K l) (i:=0) (n:=l.length) (fun j LK=>by rw[aLg];exact hp j LK);have h2:=tp (f:=qO K l m) (i:=0) hk (fun j LK=>by rw[aLg];exact hj j LK) (by rwa[aLg]);rw[aLg]at h2;unfold xX;rw[if_neg h,h1,if_neg (by simp),if_neg h12,h2]
def PG{K:sJ}{l:se}{m:Ins}(h:¬64<l.length)(hp:∀j,j<l.length->kX K l j=0)(h12:¬12<m.length)(hj:∀j,j<m.length->qO K l m j=0):xX K l m=0:=by have h1:=mK (f:=kX K l) (i:=0) (n:=l.length) (fun j LK=>by rw[aLg];exact hp j LK);have h2:=mK (f:=qO K l m) (i:=0) (n:=m.length) (fun j LK=>by rw[aLg];exact hj j LK);unfold xX;rw[if_neg h,h1,if_neg (by simp),if_neg h12,h2]
def aeU{l:se}{i:Nat}(hi:i<l.length):fH (l.take (i+1))=fH (l.take i)++[(l.getD i Q6).nm]:=by unfold fH;rw[aWr,aLh hi,aTc,aLh hi,List.map_append];rfl
def aeT{l:Ins}{i:Nat}(hi:i<l.length):kh (l.take (i+1))=kh (l.take i)++[(l.getD i xd0).nm]:=by unfold kh;rw[aWr,aLh hi,aTc,aLh hi,List.map_append];rfl
structure UE(pv iv:AV)(l:se)(m:Ins):Prop where
 pv:SV pv (vZ l) l.length
 iv:SV iv (FH m) m.length
 Ur:∀p∈l,D6 p.cv
 nl:l.length<1000000000
 nm:m.length<1000000000
 ps:∀p∈l,p.nm.length<=4611686018427387904
 is:∀x∈m,x.nm.length<=4611686018427387904/\x.pt.length<=4611686018427387904
def Y2{aP:Nat}:qD E aP 84 none=some (.eS aP,[(aP,yx [])]):=adR
def ID{pv iv:AV}{l:se}{m:Ins}{K:sJ}(hA:UE pv iv l m)(hK:64<l.length∨uh E K l m):
  aR E 12 [.agg [pv,iv]]=some (.int .i64 (xX K l m)):=by
 suffices hh:∃r,aR E 12 [.agg [pv,iv]]=some r/\r=.int .i64 (xX K l m)by obtain⟨r,h1,rfl⟩:=hh;exact h1
 have z8:=hA.pv.len;have opv:=hA.pv.one;have rpv:=hA.pv.root;have De:=hA.iv.len;have S8:=hA.iv.one;have riv:=hA.iv.root;have mkm:=fun aP=>Y2 (E:=E) (aP:=aP)
 refine qj aya ?_;intro ts hl g0;unfold c12;by_cases h64:64<l.length
 ·have d0:decide ((l.length:Int)>64)=true:=bh;simp only[↓aL,aM,aJ,aa,ae,Tryz.f12,hl,g0,z8,d0];rw[IV h64]
 have K2:uh E K l m:=hK.resolve_left h64;have d0:decide ((l.length:Int)>64)=false:=bj;simp only[↓aL,aM,aJ,aa,ah,ae,Tryz.f12,hl,g0,z8,d0,mkm];refine cE (fun k_ ts H=>∃i:Nat,∃H1:Hp,k_=(l.length-i:Nat)/\ts.length=69/\gt ts 1=.bI 0 0/\gt ts 3=.eS 1/\gt ts 19=pv/\gt ts 20=.int .i64 (l.length:Int)/\gt ts 21=.int .i64 (i:Int)/\H=H1/\(i<=l.length)/\(∀j,j<i->kX K l j=0)/\(H1[0]?=some (.cells .live [pv,iv]))/\(H1[1]?=some (yx (fH (l.take i))))) (l.length) ?_ ?_
 rotate_left
 ·refine⟨0,[.cells .live [pv,iv],yx []],(by first|omega|rfl|simp),(by simp[bc,hl]),?_⟩;simp only[aZ,hl,aa,ae]
  iterate 6 refine cG ?_
  refine⟨?_,?_,?_,?_⟩
  ·first|omega|trivial
  ·first|(intro j hj;omega)|trivial
  ·first|rfl|trivial
  ·first|rfl|trivial
 clear hl g0 ts;rintro k_ ts H ⟨i,H1,rfl,hl,g1,g3,g19,g20,g21,rfl,hi,hq,h0,h1⟩;refine VS ?_;by_cases hd:i<l.length
 ·have d1:decide ((i:Int)<(l.length:Int))=true:=bh;have G4:AV.aK (vZ l) l.length=pv:=(hA.pv.pos (by omega)).symm;rw[<-G4]at g19;have ci:=eT (i:=i) (n:=l.length) hd;have mZ:=wz (z:=(i:Int)+1) (m:=i+1) (by omega) (by have:=hA.nl;omega);have pa:=DI hd;have hgd:l.getD i Q6=l[i]:=by rw[aTc,aLh hd];rfl
  have Eg:=(hA.Ur _ (aLr hd)).facts;have l8:=hA.ps _ (aLr hd);have LN:=K2.sc _ (aLr hd);have dp:kX K l i=if gP (fH (l.take i)) (l[i]).nm≠0 then gP (fH (l.take i)) (l[i]).nm else K.sc l[i]:=by unfold kX;rw[hgd]
  have M5:=aeU hd;rw[hgd]at M5;have zN:=CN (E:=E) (H:=H++[.cells .live (sa l[i])]) (b:=1) (ks:=fH (l.take i)) (s:=(l[i]).nm) (by rw[aNB (aKB.1 h1).1];exact h1) l8;have ow:=fun h=>V7 (m:=m) h64 hd hq h
  generalize oQ:K.sc l[i]=cs at dp LN;generalize hcf:gP (fH (l.take i)) (l[i]).nm=cf at dp zN;generalize hpd:l[i]=p at pa Eg l8 LN zN M5;obtain⟨nm,dn,cv,cl⟩:=p;simp only[sa]at pa LN zN;by_cases MQ:cf=0
  rotate_left
  ·have b0:(cf !=0)=true:=by simpa using MQ
   rw[if_neg MQ]at zN;rw[if_pos MQ]at dp;simp only[↓aL,aM,↓aT,aJ,cH,↓reduceIte,aa,ah,ae,hl,g3,g19,g20,g21,ci,pa,Eg,zN,b0];rw[ow (by rw[dp];exact MQ),dp]
  have b0:(cf !=0)=false:=by simp[MQ]
  rw[if_pos MQ]at zN;rw[if_neg (by simpa using MQ)]at dp;have Jq:=(aKB.1 h1).1;obtain⟨H2,yW⟩:∃H2,H2=H.set 1 (yx (fH (l.take i)++[nm])):=⟨_,rfl⟩;rw[dk (by rw[aLk];omega),aVt _ _ Jq,<-yW]at zN;have yj:H2.length=H.length:=by rw[yW];simp
  by_cases zS:cs=0
  rotate_left
  ·have b1:(cs !=0)=true:=by simpa using zS
   simp only[↓aL,aM,↓aT,aJ,cH,↓reduceIte,aa,ah,ae,hl,g3,g19,g20,g21,ci,pa,Eg,zN,b0,LN,b1,yj];rw[ow (by rw[dp];exact zS),dp]
  have b1:(cs !=0)=false:=by simp[zS]
  simp only[↓aL,aM,↓aT,aJ,cH,↓reduceIte,aa,ah,ae,hl,g3,g19,g20,g21,ci,mZ,pa,Eg,zN,b0,LN,b1,yj];refine bK ?_;refine⟨_,?_,i+1,(H2++[.cells .live [.str nm,.int .i64 dn,cv]]),rfl,(by simp[bc,hl]),?_⟩
  ·first|omega|(simp;omega)
  simp only[aZ,hl,aa,ae,g1,g3,g19,g20]
  iterate 6 refine cG ?_
  refine⟨?_,?_,?_,?_⟩
  ·omega
  ·intro j hj;rcases aVr (aVs hj)with h|rfl
   ·exact hq j h
   ·rw[dp];exact zS
  ·have nR:=(aKB.1 h0).1;rw[aNB (by omega),yW,aNt (by omega)];exact h0
  ·rw[aNB (by omega),yW,aNv Jq,M5]
 have hie:i=l.length:=by omega
 have d1:decide ((i:Int)<(l.length:Int))=false:=bj;have nR:=(aKB.1 h0).1;have Jq:=(aKB.1 h1).1;have D7:cellAt H 0 1=some iv:=by rw[bX,h0];rfl
 have hqa:∀j,j<l.length->kX K l j=0:=fun j hj=>hq j (by omega)
 rw[hie,List.take_length]at h1;by_cases h12:12<m.length
 ·have d2:decide ((m.length:Int)>12)=true:=bh;simp only[↓aL,aM,aJ,↓reduceIte,aa,ae,hl,g1,g20,g21,d1,D7,De,d2];rw[V6 h64 hqa h12]
 have d2:decide ((m.length:Int)>12)=false:=bj;have IQ:∀{T:Hp},cellAt (H++T) 0 1=some iv:=by intro T;rw[bX,aNB nR,h0];rfl
 have pbn:∀{x:ct},cJ H H.length x=H++[x]:=fun{x}=>dN
 simp only[↓aL,aM,aJ,↓reduceIte,aa,ae,hl,g1,g20,g21,d1,D7,IQ,De,d2,mkm,pbn];obtain⟨B,hB⟩:∃B,B=H.length:=⟨_,rfl⟩;rw[<-hB];have hB1:1<B:=by omega
 refine cE (fun k_ ts H=>∃k:Nat,∃H1:Hp,k_=(m.length-k:Nat)/\ts.length=69/\gt ts 3=.eS 1/\gt ts 8=.eS B/\gt ts 44=iv/\gt ts 45=.int .i64 (m.length:Int)/\gt ts 46=.int .i64 (k:Int)/\H=H1/\(k<=m.length)/\(∀j,j<k->qO K l m j=0)/\(H1[1]?=some (yx (fH l)))/\(H1[B]?=some (yx (kh (m.take k))))) (m.length) ?_ ?_
 rotate_left
 ·refine⟨0,(H++[yx []]),(by first|omega|rfl|simp),(by simp[bc,hl]),?_⟩;simp only[aZ,hl,aa,ae,g3]
  iterate 6 refine cG ?_
  refine⟨?_,?_,?_,?_⟩
  ·first|omega|trivial
  ·first|(intro j hj;omega)|trivial
  ·first|(rw[aNB Jq];exact h1)|trivial
  ·first|(rw[hB];simp;rfl)|trivial
 clear hl g1 g3 g19 g20 g21 ts;rintro k_ ts H ⟨k,H1,rfl,hl,g3,g8,Bf,ML,WZ,rfl,hk,Uj,h1,hb⟩;refine VS ?_;by_cases hd:k<m.length
 rotate_left
 ·have e1:decide ((k:Int)<(m.length:Int))=false:=bj;simp only[↓aL,aM,↓reduceIte,aa,hl,ML,WZ,e1];rw[PG h64 hqa h12 (fun j hj=>Uj j (by omega))]
 have e1:decide ((k:Int)<(m.length:Int))=true:=bh;have G4:AV.aK (FH m) m.length=iv:=(hA.iv.pos (by omega)).symm;rw[<-G4]at Bf;have ck:=eT (i:=k) (n:=m.length) hd;have qd:=wz (z:=(k:Int)+1) (m:=k+1) (by omega) (by have:=hA.nm;omega);have pa:=Na hd;have hgd:m.getD k xd0=m[k]:=by rw[aTc,aLh hd];rfl
 have l8:=hA.is _ (aLr hd);have Uh:=K2.mc _ (aLr hd);have dp:qO K l m k=if gP (kh (m.take k)) (m[k]).nm≠0 then gP (kh (m.take k)) (m[k]).nm else if(m[k]).pt∈fH l then K.mc m[k]else 16:=by unfold qO;rw[hgd]
 have M5:=aeT hd;rw[hgd]at M5;have akw:=(aKB.1 hb).1;have zN:=CN (E:=E) (H:=H++[.cells .live (C3 m[k])]) (b:=B) (ks:=kh (m.take k)) (s:=(m[k]).nm) (by rw[aNB akw];exact hb) l8.1;have ow:=fun h=>V5 h64 hqa h12 hd Uj h
 generalize oQ:K.mc m[k]=cs at dp Uh;generalize hcf:gP (kh (m.take k)) (m[k]).nm=cf at dp zN;generalize hxd:m[k]=x at pa l8 Uh zN M5 dp;obtain⟨nm,pt,t0,t1,t2,t3,s0,s1,s2⟩:=x;simp only[C3]at pa Uh zN
 dsimp only at dp M5
 by_cases MQ:cf=0
 rotate_left
 ·have b0:(cf !=0)=true:=by simpa using MQ
  rw[if_neg MQ]at zN;rw[if_pos MQ]at dp;simp only[↓aL,aM,↓aT,aJ,cH,↓reduceIte,aa,ah,ae,hl,g8,Bf,ML,WZ,ck,pa,zN,b0];rw[ow (by rw[dp];exact MQ),dp]
 have b0:(cf !=0)=false:=by simp[MQ]
 rw[if_pos MQ]at zN;rw[if_neg (by simpa using MQ)]at dp;obtain⟨H2,yW⟩:∃H2,H2=H.set B (yx (kh (m.take k)++[nm])):=⟨_,rfl⟩;rw[dk (by rw[aLk];omega),aVt _ _ akw,<-yW]at zN;have yj:H2.length=H.length:=by rw[yW];simp
 have h21:H2[1]?=some (yx (fH l)):=by rw[yW,aNt (by omega)];exact h1
 have Qh:pJ E 84 9 4=true:=BN C;have heq:=fun a b=>Rq (E:=E) a b
 have hmb:∀{T:Hp},(H2++T)[1]?=some (.map .live ((fH l).map AV.str) ((fH l).map fun _=>AV.bool true)):=by intro T;rw[aNB (by omega)];exact h21
 by_cases vG:pt∈fH l
 rotate_left
 ·have yk:=fun{T:Hp}=>uG (enc:=AV.str) (ok:=false) Qh heq (hmb (T:=T)) (by simp) vG (Ig (E:=E))
  simp only[Bool.false_eq_true,if_false]at yk;rw[if_neg vG]at dp;simp only[↓aL,aM,↓aT,aJ,cH,↓reduceIte,aa,ah,ae,hl,g3,g8,Bf,ML,WZ,ck,pa,zN,b0,yk,yj];rw[ow (by rw[dp];decide),dp]
 have yk:∀{T:Hp},jT E (H2++T) 84 (.eS 1) (.str pt) false=some (.bool true):=by
  intro T;obtain⟨q,hq,yk⟩:=rq (enc:=AV.str) (ok:=false) Qh heq (hmb (T:=T)) (by simp) vG;rw[show(((fH l).map fun _=>AV.bool true).getD q bS)=.bool true by simp[aTc,hq]]at yk;simpa using yk
 rw[if_pos vG]at dp;by_cases zS:cs=0
 rotate_left
 ·have b1:(cs !=0)=true:=by simpa using zS
  simp only[↓aL,aM,↓aT,aJ,cH,↓reduceIte,aa,ah,ae,hl,g3,g8,Bf,ML,WZ,ck,pa,zN,b0,yk,Uh,b1,yj];rw[ow (by rw[dp];exact zS),dp]
 have b1:(cs !=0)=false:=by simp[zS]
 simp only[↓aL,aM,↓aT,aJ,cH,↓reduceIte,aa,ah,ae,hl,g3,g8,Bf,ML,WZ,ck,qd,pa,zN,b0,yk,Uh,b1,yj];refine bK ?_;refine⟨_,?_,k+1,(H2++[.cells .live [.str nm,.str pt,.int .i64 t0,.int .i64 t1,.int .i64 t2,.int .i64 t3,.str s0,.str s1,.str s2]]),rfl,(by simp[bc,hl]),?_⟩
 ·first|omega|(simp;omega)
 simp only[aZ,hl,aa,ae,g3,g8,Bf,ML]
 iterate 6 refine cG ?_
 refine⟨?_,?_,?_,?_⟩
 ·omega
 ·intro j hj;rcases aVr (aVs hj)with h|rfl
  ·exact Uj j h
  ·rw[dp];exact zS
 ·rw[aNB (by omega)];exact h21
 ·rw[aNB (by omega),yW,aNv akw,M5]
def Rm{E:Env}{t s rU:Nat}{ag:Bool}{z:List AV}(hS:dV E t=some (ag,s,rU,z)){H:Hp}{cs:List AV}{n k:Nat}{i:IntKind}(hk:k<=n:=by omega):∃v,HR E H t (.aK cs n) none (some (.int i (k:Int)))=some v/\SV v (cs.take (k*s)) k:=by
 obtain⟨ti,e,ei,h1,h2,h3,h4,h5,_⟩:=iR hS;obtain⟨cD,jA,jS,jB,jZ,dQ⟩:=ti;simp only at h2;subst h2 h5;by_cases h0:k=0
 ·subst h0;refine⟨.dx,?_,.inr ⟨rfl,.inr rfl⟩⟩;simp only[HR,h1,gg,h3,IL (aLo n)]
  simp
 ·refine⟨.aK (cs.take (k*ei.size)) k,?_,.inl rfl⟩;simp only[HR,h1,gg,h3,IL hk];rw[if_neg (by omega)]
  simp
def ZC{l:se}(i:Nat):(vZ l).take (i*3)=vZ (l.take i):=by unfold vZ;rw[kT i (yF l),List.map_take]
def XV{l:Ins}(i:Nat):(FH l).take (i*9)=FH (l.take i):=by unfold FH;rw[kT i (qB l),List.map_take]
def CH{α:Type}{p:α->Bool}:∀{l:List α} {i k:Nat},lA p l i=some k->i<=k/\k<i+l.length
 |[],_,_,h=>by cases h
 |x::l,i,k,h=>by
  unfold lA at h;split at h
  ·injection h with h;subst h;simp
  ·have:=CH h;simp;omega
def DC{l:se}{s:List UInt8}(hl:∀p∈l,D6 p.cv):∃a b c,yD l s=.tuple [.agg [a,b,c],.bool (decide (s∈fH l))]/\(cL a=true/\cL b=true/\cL c=true):=by
 by_cases h:s∈fH l
 ·rw[bh h];unfold yD;have eQ:KP l s≠none:=by
   intro hn;obtain⟨p,hp,rfl⟩:=aMr.1 h
   have:∀(l:se) (i:Nat),p∈l->lA (fun q:nF=>decide (q.nm=p.nm)) l i≠none:=by
    intro l;induction l with
    |nil=>intro i h;cases h
    |cons x l ih=>
     intro i hx;unfold lA
     split
     ·simp
     ·rename_i hc;rcases aMp.1 hx with rfl|hx
      ·simp at hc
      ·exact ih _ hx
   exact this l 0 hp hn
  cases hk:KP l s with
  |none=>exact absurd hk eQ
  |some k=>
   have:=CH hk
   dsimp only
   have hm:l.getD k Q6∈l:=by rw[aTc,aLh (by omega)];exact aLr _
   exact⟨_,_,_,rfl,rfl,rfl,(hl _ hm).facts.1⟩
 ·rw[bj h];rw[wU fun j hj e=>h (by rw[<-e];exact aWq (aLr hj))];exact⟨_,_,_,rfl,rfl,rfl,rfl⟩
def FI{l:Ins}{s:List UInt8}:∃z:Int,EP l s=.tuple [.int .i64 z,.bool (decide (s∈kh l))]:=by
 by_cases h:s∈kh l
 ·rw[bh h];unfold EP;have eQ:JD l s≠none:=by
   intro hn;obtain⟨p,hp,rfl⟩:=aMr.1 h
   have:∀(l:Ins) (i:Nat),p∈l->lA (fun q:vN=>decide (q.nm=p.nm)) l i≠none:=by
    intro l;induction l with
    |nil=>intro i h;cases h
    |cons x l ih=>
     intro i hx;unfold lA
     split
     ·simp
     ·rename_i hc;rcases aMp.1 hx with rfl|hx
      ·simp at hc
      ·exact ih _ hx
   exact this l 0 hp hn
  cases hk:JD l s with
  |none=>exact absurd hk eQ
  |some k=>exact⟨_,rfl⟩
 ·rw[bj h];rw[zV fun j hj e=>h (by rw[<-e];exact aWq (aLr hj))];exact⟨_,rfl⟩
def Ku{pv iv:AV}{l:se}{m:Ins}{K:sJ}(hA:UE pv iv l m)(hK:64<l.length∨uh E K l m):
  aR E 13 [.agg [pv,iv]]=some (.int .i64 (xX K l m)):=by
 suffices hh:∃r,aR E 13 [.agg [pv,iv]]=some r/\r=.int .i64 (xX K l m)by obtain⟨r,h1,rfl⟩:=hh;exact h1
 have z8:=hA.pv.len;have opv:=hA.pv.one;have rpv:=hA.pv.root;have Iv:=hA.pv.pure;have De:=hA.iv.len;have S8:=hA.iv.one;have riv:=hA.iv.root;have LR:=hA.iv.pure;refine qj ayb ?_;intro ts hl g0;unfold c13;by_cases h64:64<l.length
 ·have d0:decide ((l.length:Int)>64)=true:=bh;simp only[↓aL,aM,aJ,aa,ae,Tryz.f13,hl,g0,z8,d0];rw[IV h64]
 have K2:uh E K l m:=hK.resolve_left h64;have d0:decide ((l.length:Int)>64)=false:=bj;simp only[↓aL,aM,aJ,aa,ae,Tryz.f13,hl,g0,z8,d0];refine cE (fun k_ ts H=>∃i:Nat,∃H1:Hp,k_=(l.length-i:Nat)/\ts.length=104/\gt ts 1=.bI 0 0/\gt ts 3=.int .i64 (i:Int)/\H=H1/\(i<=l.length)/\(∀j,j<i->kX K l j=0)/\(H1[0]?=some (.cells .live [pv,iv]))) (l.length) ?_ ?_
 rotate_left
 ·refine⟨0,[.cells .live [pv,iv]],(by first|omega|rfl|simp),(by simp[bc,hl]),?_⟩;simp only[aZ,hl,aa,ae]
  iterate 3 refine cG ?_
  refine⟨?_,?_,?_⟩
  ·first|omega|trivial
  ·first|(intro j hj;omega)|trivial
  ·first|rfl|trivial
 clear hl g0 ts;rintro k_ ts H ⟨i,H1,rfl,hl,g1,g3,rfl,hi,hq,h0⟩;refine VS ?_;have nR:=(aKB.1 h0).1;have Fl:cellAt H 0 0=some pv:=by rw[bX,h0];rfl
 have abz:∀{T:Hp},cellAt (H++T) 0 0=some pv:=by intro T;rw[bX,aNB nR,h0];rfl
 by_cases hd:i<l.length
 ·have d1:decide ((i:Int)<(l.length:Int))=true:=bh;have G4:AV.aK (vZ l) l.length=pv:=(hA.pv.pos (by omega)).symm;have ci:=eT (i:=i) (n:=l.length) hd;have mZ:=wz (z:=(i:Int)+1) (m:=i+1) (by omega) (by have:=hA.nl;omega);have pa:=DI hd;have hgd:l.getD i Q6=l[i]:=by rw[aTc,aLh hd];rfl
  have Eg:=(hA.Ur _ (aLr hd)).facts;have l8:=hA.ps _ (aLr hd);have LN:=K2.sc _ (aLr hd);have dp:kX K l i=if gP (fH (l.take i)) (l[i]).nm≠0 then gP (fH (l.take i)) (l[i]).nm else K.sc l[i]:=by unfold kX;rw[hgd]
  have ow:=fun h=>V7 (m:=m) h64 hd hq h
  obtain⟨sv,BL,W9⟩:=Rm (E:=E) OE (H:=H++[.cells .live (sa l[i]),dw]) (cs:=vZ l) (n:=l.length) (k:=i) (i:=.i64);rw[ZC]at W9;have Qm:(l.take i).length=i:=by rw[aOw];omega
  have vG:=wO (E:=E) (pv:=sv) (iv:=.aH) (l:=l.take i) (s:=(l[i]).nm) (by rw[Qm];exact W9) D6.nil (fun p hp=>hA.Ur p (aQN hp)) (by have:=hA.nl;omega);obtain⟨ra,rb,rc,XB,ro1,ro2,ro3⟩:=DC (l:=l.take i) (s:=(l[i]).nm) (fun p hp=>hA.Ur p (aQN hp));rw[XB]at vG;have azY:=W9.one;have EL:=W9.pure;have EJ:=W9.cells;have yZ:=Dg (E:=E) l8;unfold gP at dp;generalize oQ:K.sc l[i]=cs at dp LN;generalize hpd:l[i]=p at pa Eg l8 LN BL dp vG yZ;obtain⟨nm,dn,cv,cl⟩:=p;simp only[sa]at pa LN BL
  dsimp only at dp vG yZ l8
  have z1:∀{j:Nat},(0==H.length+j)=false:=fun{j}=>beq_eq_false_iff_ne.2 (by omega)
  have z2:∀{j:Nat},(H.length+j==0)=false:=fun{j}=>beq_eq_false_iff_ne.2 (by omega)
  subst G4;by_cases h1:wM nm=true
  rotate_left
  ·rw[if_neg h1,if_pos (by decide)]at dp;have h1':wM nm=false:=by simpa using h1
   rw[h1']at yZ;simp only[↓aL,aM,↓aT,aJ,cH,↓reduceIte,aa,ah,ae,ai,hl,g1,g3,z8,Fl,abz,ci,pa,Eg,BL,vG,EL,EJ,ro1,ro2,ro3,yZ,z1,aTs,aLk];rw[ow (by rw[dp];decide),dp]
  rw[h1]at yZ;rw[if_pos h1]at dp;by_cases h2:nm∈fH (l.take i)
  ·rw[if_pos h2,if_pos (by decide)]at dp;rw[bh h2]at vG;simp only[↓aL,aM,↓aT,aJ,cH,↓reduceIte,aa,ah,ae,ai,hl,g1,g3,z8,Fl,abz,ci,pa,Eg,BL,vG,EL,EJ,ro1,ro2,ro3,yZ,z1,aTs,aLk];rw[ow (by rw[dp];decide),dp]
  rw[if_neg h2,if_neg (by decide)]at dp;rw[bj h2]at vG;by_cases zS:cs=0
  rotate_left
  ·have b1:(cs !=0)=true:=by simpa using zS
   simp only[↓aL,aM,↓aT,aJ,cH,↓reduceIte,aa,ah,ae,ai,hl,g1,g3,z8,Fl,abz,ci,pa,Eg,BL,vG,EL,EJ,ro1,ro2,ro3,yZ,LN,b1,z1,aTs,aLk];rw[ow (by rw[dp];exact zS),dp]
  have b1:(cs !=0)=false:=by simp[zS]
  simp only[↓aL,aM,↓aT,aJ,cH,↓reduceIte,aa,ah,ae,ai,hl,g1,g3,z8,Fl,abz,ci,mZ,pa,Eg,BL,vG,EL,EJ,ro1,ro2,ro3,yZ,LN,b1,z1,aTs,aLk];refine bK ?_;refine⟨_,?_,i+1,(H++[.cells .live [.str nm,.int .i64 dn,cv],.cells .live [ra,rb,rc]]),rfl,(by simp[bc,hl]),?_⟩
  ·first|omega|(simp;omega)
  simp only[aZ,hl,aa,ae,g1]
  iterate 3 refine cG ?_
  refine⟨?_,?_,?_⟩
  ·omega
  ·intro j hj;rcases aVr (aVs hj)with h|rfl
   ·exact hq j h
   ·rw[dp];exact zS
  ·rw[aNB nR];exact h0
 have hie:i=l.length:=by omega
 have d1:decide ((i:Int)<(l.length:Int))=false:=bj;have hqa:∀j,j<l.length->kX K l j=0:=fun j hj=>hq j (by omega)
 have D7:cellAt H 0 1=some iv:=by rw[bX,h0];rfl
 by_cases h12:12<m.length
 ·have d2:decide ((m.length:Int)>12)=true:=bh;simp only[↓aL,aM,aJ,↓reduceIte,aa,ae,hl,g1,g3,z8,De,d1,Fl,D7,d2];rw[V6 h64 hqa h12]
 have d2:decide ((m.length:Int)>12)=false:=bj;simp only[↓aL,aM,aJ,↓reduceIte,aa,ae,hl,g1,g3,z8,De,d1,Fl,D7,d2];refine cE (fun k_ ts H=>∃k:Nat,∃H1:Hp,k_=(m.length-k:Nat)/\ts.length=104/\gt ts 1=.bI 0 0/\gt ts 8=.int .i64 (k:Int)/\H=H1/\(k<=m.length)/\(∀j,j<k->qO K l m j=0)/\(H1[0]?=some (.cells .live [pv,iv]))) (m.length) ?_ ?_
 rotate_left
 ·refine⟨0,H,(by first|omega|rfl|simp),(by simp[bc,hl]),?_⟩;simp only[aZ,hl,aa,ae,g1]
  iterate 3 refine cG ?_
  refine⟨?_,?_,?_⟩
  ·first|omega|trivial
  ·first|(intro j hj;omega)|trivial
  ·first|exact h0|trivial
 clear hl g1 g3 ts;rintro k_ ts H ⟨k,H1,rfl,hl,g1,g8,rfl,hk,Uj,h0⟩;refine VS ?_;have nR:=(aKB.1 h0).1;have D7:cellAt H 0 1=some iv:=by rw[bX,h0];rfl
 have IQ:∀{T:Hp},cellAt (H++T) 0 1=some iv:=by intro T;rw[bX,aNB nR,h0];rfl
 have a00:∀{T:Hp},eP 2 (H++T) 0 0=some (.agg [pv,iv]):=by intro T;rw[dA,aNB nR,h0];rfl
 by_cases hd:k<m.length
 rotate_left
 ·have d1:decide ((k:Int)<(m.length:Int))=false:=bj;simp only[↓aL,aM,aJ,↓reduceIte,aa,ae,hl,g1,g8,De,d1,D7];rw[PG h64 hqa h12 (fun j hj=>Uj j (by omega))]
 have d1:decide ((k:Int)<(m.length:Int))=true:=bh;have G4:AV.aK (FH m) m.length=iv:=(hA.iv.pos (by omega)).symm;have ck:=eT (i:=k) (n:=m.length) hd;have qd:=wz (z:=(k:Int)+1) (m:=k+1) (by omega) (by have:=hA.nm;omega);have pa:=Na hd;have hgd:m.getD k xd0=m[k]:=by rw[aTc,aLh hd];rfl
 have l8:=hA.is _ (aLr hd);have Uh:=K2.mc _ (aLr hd);have dp:qO K l m k=if gP (kh (m.take k)) (m[k]).nm≠0 then gP (kh (m.take k)) (m[k]).nm else if(m[k]).pt∈fH l then K.mc m[k]else 16:=by unfold qO;rw[hgd]
 have ow:=fun h=>V5 h64 hqa h12 hd Uj h
 obtain⟨sv,BL,W9⟩:=Rm (E:=E) al1 (H:=H++[.cells .live (C3 m[k])]) (cs:=FH m) (n:=m.length) (k:=k) (i:=.i64);rw[XV]at W9;have Qm:(m.take k).length=k:=by rw[aOw];omega
 have qz:=AL (E:=E) (pv:=.aH) (iv:=sv) (l:=m.take k) (s:=(m[k]).nm) (by rw[Qm];exact W9) D6.nil (by have:=hA.nm;omega);obtain⟨zi,hio⟩:=FI (l:=m.take k) (s:=(m[k]).nm);rw[hio]at qz;have vG:=wO (E:=E) (pv:=pv) (iv:=iv) (l:=l) (s:=(m[k]).pt) hA.pv ⟨_,_,hA.iv⟩ hA.Ur (by have:=hA.nl;omega);obtain⟨ra,rb,rc,XB,ro1,ro2,ro3⟩:=DC (l:=l) (s:=(m[k]).pt) hA.Ur;rw[XB]at vG;have azY:=W9.one;have EL:=W9.pure;have EJ:=W9.cells;have yZ:=Dg (E:=E) l8.1;unfold gP at dp;generalize oQ:K.mc m[k]=cs at dp Uh;generalize hxd:m[k]=x at pa l8 Uh dp BL qz vG yZ;obtain⟨nm,pt,t0,t1,t2,t3,s0,s1,s2⟩:=x;simp only[C3]at pa Uh BL
 dsimp only at dp qz vG yZ
 have z1:∀{j:Nat},(0==H.length+j)=false:=fun{j}=>beq_eq_false_iff_ne.2 (by omega)
 have z2:∀{j:Nat},(H.length+j==0)=false:=fun{j}=>beq_eq_false_iff_ne.2 (by omega)
 rw[<-G4]at D7 IQ a00 De S8 LR riv vG;by_cases h1:wM nm=true
 rotate_left
 ·rw[if_neg h1,if_pos (by decide)]at dp;have h1':wM nm=false:=by simpa using h1
  rw[h1']at yZ;simp only[↓aL,aM,↓aT,aJ,cH,↓reduceIte,aa,ah,ae,hl,g1,g8,De,D7,IQ,a00,ck,pa,BL,qz,EL,EJ,Iv,vG,ro1,ro2,ro3,yZ,aTs,aLk];rw[ow (by rw[dp];decide),dp]
 rw[h1]at yZ;rw[if_pos h1]at dp;by_cases h2:nm∈kh (m.take k)
 ·rw[if_pos h2,if_pos (by decide)]at dp;rw[bh h2]at qz;simp only[↓aL,aM,↓aT,aJ,cH,↓reduceIte,aa,ah,ae,hl,g1,g8,De,D7,IQ,a00,ck,pa,BL,qz,EL,EJ,Iv,vG,ro1,ro2,ro3,yZ,aTs,aLk];rw[ow (by rw[dp];decide),dp]
 rw[if_neg h2,if_neg (by decide)]at dp;rw[bj h2]at qz;by_cases h3:pt∈fH l
 rotate_left
 ·rw[if_neg h3]at dp;rw[bj h3]at vG;simp only[↓aL,aM,↓aT,aJ,cH,↓reduceIte,aa,ah,ae,hl,g1,g8,De,D7,IQ,a00,ck,pa,BL,qz,EL,EJ,Iv,vG,ro1,ro2,ro3,yZ,aTs,aLk];rw[ow (by rw[dp];decide),dp]
 rw[if_pos h3]at dp;rw[bh h3]at vG;by_cases zS:cs=0
 rotate_left
 ·have b1:(cs !=0)=true:=by simpa using zS
  simp only[↓aL,aM,↓aT,aJ,cH,↓reduceIte,aa,ah,ae,hl,g1,g8,De,D7,IQ,a00,ck,pa,BL,qz,EL,EJ,Iv,vG,ro1,ro2,ro3,yZ,Uh,b1,aTs,aLk];rw[ow (by rw[dp];exact zS),dp]
 have b1:(cs !=0)=false:=by simp[zS]
 simp only[↓aL,aM,↓aT,aJ,cH,↓reduceIte,aa,ah,ae,hl,g1,g8,De,D7,IQ,a00,ck,pa,BL,qz,EL,EJ,Iv,vG,ro1,ro2,ro3,yZ,Uh,b1,qd,aTs,aLk];refine bK ?_;refine⟨_,?_,k+1,(H++[.cells .live [.str nm,.str pt,.int .i64 t0,.int .i64 t1,.int .i64 t2,.int .i64 t3,.str s0,.str s1,.str s2],.cells .live [ra,rb,rc]]),rfl,(by simp[bc,hl]),?_⟩
 ·first|omega|(simp;omega)
 simp only[aZ,hl,aa,ae,g1]
 iterate 3 refine cG ?_
 refine⟨?_,?_,?_⟩
 ·omega
 ·intro j hj;rcases aVr (aVs hj)with h|rfl
  ·exact Uj j h
  ·rw[dp];exact zS
 ·rw[aNB nR];exact h0
def OT{rows:List (List AV)}{s j q n:Nat}{r:List AV}(hl:∀r∈rows,r.length=s)(hr:rows[j]?=some r)(hq:q+n<=s):(rows.flatten.drop (j*s+q)).take n=(r.drop q).take n:=by have h1:=jz hl hr;rw[<-h1,List.drop_take,List.drop_drop,List.take_take,Nat.min_eq_left (by omega)]
def aub{l:Ins}{i q n:Nat}(hi:i<l.length)(hq:q+n<=9):fG true n (FH l) (i*9+q)=some (.agg (((C3 l[i]).drop q).take n)):=by
 have h3:=iM (qB l) (j:=i) (by simpa using hi);have h4:i*9+q+n<=(FH l).length:=by unfold FH;omega
 rw[jd h4];unfold FH;rw[OT (qB l) (by rw[aMf,aLh hi];rfl) hq]
def aja{cl:List Cl}{i:Nat}(h:i<cl.length):fG false 1 (cl.map (·.1)) i=some cl[i].1:=by rw[gI,aMf,aLh h];rfl
structure Iz(l:se)(m:Ins):Prop where
 p2:∀p∈l,p.cl.length<=2/\∀c∈p.cl,c.2.length<=8
 i20:∀x∈m,x.s0.length<=20/\x.s1.length<=20/\x.s2.length<=20
 l5:l.length<=5
 m14:m.length<=14
structure Ix(pv iv:AV)(l:se)(m:Ins):Prop where
 pv:SV pv (vZ l) l.length
 iv:SV iv (FH m) m.length
 pt:∀p∈l,zn p
 nl:l.length<=4611686018427387904
 nm:m.length<=4611686018427387904
 nc:∀p∈l,p.cl.length<=4611686018427387904
 ps:∀p∈l,p.nm.length<=4611686018427387904
 is:∀x∈m,(x.nm.length<=4611686018427387904/\x.pt.length<=4611686018427387904)/\x.s0.length<=4611686018427387904/\x.s1.length<=4611686018427387904/\x.s2.length<=4611686018427387904
def WL{pv iv:AV}{l:se}{m:Ins}(hA:Ix pv iv l m):
  ∃b:Bool,aR E 6 [.agg [pv,iv]]=some (.bool b)/\(b=true->Iz l m):=by
 suffices hh:∃r,aR E 6 [.agg [pv,iv]]=some r/\∃b:Bool,r=.bool b/\(b=true->Iz l m)by obtain⟨r,h1,b,rfl,h2⟩:=hh;exact⟨b,h1,h2⟩
 have z8:=hA.pv.len;have opv:=hA.pv.one;have rpv:=hA.pv.root;have De:=hA.iv.len;have S8:=hA.iv.one;have riv:=hA.iv.root;refine qj fn6 ?_;intro ts hl g0;unfold c6;simp only[↓aL,aM,Tryz.f6,g0];refine cE (fun k_ ts H=>∃i:Nat,k_=(l.length-i:Nat)/\ts.length=85/\gt ts 1=.bI 0 0/\gt ts 3=.int .i64 (i:Int)/\H=[.cells .live [pv,iv]]/\(i<=l.length)/\(∀j (hj:j<l.length),j<i->(l[j]).cl.length<=2/\∀c∈(l[j]).cl,c.2.length<=8)) (l.length) ?_ ?_
 rotate_left
 ·refine⟨0,(by first|omega|rfl|simp),(by simp[bc,hl]),?_⟩;simp only[aZ,hl,aa,ae]
  iterate 3 refine cG ?_
  refine⟨?_,?_⟩
  ·first|omega|trivial
  ·first|(intro j _ hj;omega)|trivial
 clear hl g0 ts;rintro k_ ts H ⟨i,rfl,hl,g1,g3,rfl,hi,hq⟩;refine VS ?_;by_cases hd:i<l.length
 ·have d1:decide ((i:Int)<(l.length:Int))=true:=bh;have G4:AV.aK (vZ l) l.length=pv:=(hA.pv.pos (by omega)).symm;have ci:=eT (i:=i) (n:=l.length) hd;have mZ:=wz (z:=(i:Int)+1) (m:=i+1) (by omega) (by have:=hA.nl;omega);have pc:=HE (q:=2) hd (x:=(l[i]).cv) rfl;have hP:=hA.pt _ (aLr hd);have hnc:=hA.nc _ (aLr hd);have zO:=hP.cv.sv.len;have XE:=hP.cv.sv.root;have BL:=hP.cv.sv;have hci:=hP.cl;have wH:((l[i]).cl.length<=2/\∀c∈(l[i]).cl,c.2.length<=8)->∀j (hj:j<l.length),j<i+1->(l[j]).cl.length<=2/\∀c∈(l[j]).cl,c.2.length<=8:=by
   intro h j hj Bh;rcases aVr (aVs Bh)with h2|rfl
   ·exact hq j hj h2
   ·exact h
  have MW:¬((l[i]).cl.length<=2/\∀c∈(l[i]).cl,c.2.length<=8)->¬Iz l m:=fun h hF=>h (hF.p2 _ (aLr hd))
  generalize(l[i]).cv=cv at pc zO XE BL;generalize(l[i]).cl=cl at zO BL hci wH MW hnc;subst G4;by_cases h2:2<cl.length
  ·have d2:decide ((cl.length:Int)>2)=true:=bh;simp only[↓aL,aM,aJ,↓reduceIte,aa,ae,hl,g1,g3,ci,pc,zO,d2];exact⟨false,rfl,fun h=>by cases h⟩
  have d2:decide ((cl.length:Int)>2)=false:=bj;simp only[↓aL,aM,aJ,↓reduceIte,aa,ae,hl,g1,g3,ci,pc,zO,d2];refine cE (fun k_ ts H=>∃k:Nat,k_=(cl.length-k:Nat)/\ts.length=85/\gt ts 1=.bI 0 0/\gt ts 3=.int .i64 (i:Int)/\gt ts 4=.int .i64 (k:Int)/\H=[.cells .live [.aK (vZ l) l.length,iv]]/\(k<=cl.length)/\(∀j (hj:j<cl.length),j<k->(cl[j]).2.length<=8)) (cl.length) ?_ ?_
  rotate_left
  ·refine⟨0,(by first|omega|rfl|simp),(by simp[bc,hl]),?_⟩;simp only[aZ,hl,aa,ae,g1,g3]
   iterate 4 refine cG ?_
   refine⟨?_,?_⟩
   ·first|omega|trivial
   ·first|(intro j _ hj;omega)|trivial
  clear hl g1 g3 ts;rintro k_ ts H ⟨k,rfl,hl,g1,g3,g4,rfl,hk,hqk⟩;refine VS ?_;by_cases lK:k<cl.length
  rotate_left
  ·have e1:decide ((k:Int)<(cl.length:Int))=false:=bj;simp only[↓aL,aM,aJ,↓reduceIte,aa,ae,hl,g1,g3,g4,ci,pc,zO,e1,mZ];refine bK ?_;refine⟨_,?_,i+1,rfl,(by simp[bc,hl]),?_⟩
   ·first|omega|(simp;omega)
   simp only[aZ,hl,aa,ae,g1]
   iterate 3 refine cG ?_
   refine⟨?_,?_⟩
   ·omega
   ·refine wH ⟨by omega,fun c hc=>?_⟩;obtain⟨j,hj,rfl⟩:=aWj hc;exact hqk j hj (by omega)
  have e1:decide ((k:Int)<(cl.length:Int))=true:=bh;have hcx:AV.aK (cl.map (·.1)) cl.length=cv:=(BL.pos (by omega)).symm;have ck:=eT (i:=k) (n:=cl.length) lK;have qd:=wz (z:=(k:Int)+1) (m:=k+1);have pk:=aja lK;have kU:=hci _ (aLr lK);have lck:=kU.sv.len;have rck:=kU.sv.root;have hkn:∀h:(cl[k]).2.length<=8,∀j (hj:j<cl.length),j<k+1->(cl[j]).2.length<=8:=by
   intro h j hj Bh;rcases aVr (aVs Bh)with h2|rfl
   ·exact hqk j hj h2
   ·exact h
  have azs:¬(cl[k]).2.length<=8->¬Iz l m:=fun h=>MW fun h2=>h (h2.2 _ (aLr lK))
  generalize(cl[k]).1=c1 at pk lck rck;generalize(cl[k]).2=c2 at lck hkn azs;rw[<-hcx]at pc zO XE;by_cases h8:8<c2.length
  ·have e2:decide ((c2.length:Int)>8)=true:=bh;simp only[↓aL,aM,aJ,↓reduceIte,aa,ae,hl,g1,g3,g4,ci,pc,zO,ck,pk,lck,e2];exact⟨false,rfl,fun h=>by cases h⟩
  have e2:decide ((c2.length:Int)>8)=false:=bj;simp only[↓aL,aM,aJ,↓reduceIte,aa,ae,hl,g1,g3,g4,ci,pc,zO,ck,pk,lck,e2,qd];refine bK ?_;refine⟨_,?_,k+1,rfl,(by simp[bc,hl]),?_⟩
  ·first|omega|(simp;omega)
  simp only[aZ,hl,aa,ae,g1,g3]
  iterate 4 refine cG ?_
  refine⟨?_,?_⟩
  ·omega
  ·exact hkn (by omega)
 have d1:decide ((i:Int)<(l.length:Int))=false:=bj;have Ui:∀p∈l,p.cl.length<=2/\∀c∈p.cl,c.2.length<=8:=by intro p hp;obtain⟨j,hj,rfl⟩:=aWj hp;exact hq j hj (by omega)
 simp only[↓aL,aM,aJ,↓reduceIte,aa,ae,hl,g1,g3,z8,d1];refine cE (fun k_ ts H=>∃k:Nat,∃H1:Hp,k_=(m.length-k:Nat)/\ts.length=85/\gt ts 1=.bI 0 0/\gt ts 5=.int .i64 (k:Int)/\H=H1/\(k<=m.length)/\(∀j (hj:j<m.length),j<k->(m[j]).s0.length<=20/\(m[j]).s1.length<=20/\(m[j]).s2.length<=20)/\(H1[0]?=some (.cells .live [pv,iv]))) (m.length) ?_ ?_
 rotate_left
 ·refine⟨0,[.cells .live [pv,iv]],(by first|omega|rfl|simp),(by simp[bc,hl]),?_⟩;simp only[aZ,hl,aa,ae,g1]
  iterate 3 refine cG ?_
  refine⟨?_,?_,?_⟩
  ·first|omega|trivial
  ·first|(intro j _ hj;omega)|trivial
  ·first|rfl|trivial
 clear hl g1 g3 ts;rintro k_ ts H ⟨k,H1,rfl,hl,g1,g5,rfl,hk,Uj,h0⟩;refine VS ?_;have nR:=(aKB.1 h0).1;have Fl:cellAt H 0 0=some pv:=by rw[bX,h0];rfl
 have D7:cellAt H 0 1=some iv:=by rw[bX,h0];rfl
 by_cases hd:k<m.length
 rotate_left
 ·have e1:decide ((k:Int)<(m.length:Int))=false:=bj;have sD:∀x∈m,x.s0.length<=20/\x.s1.length<=20/\x.s2.length<=20:=by intro x hx;obtain⟨j,hj,rfl⟩:=aWj hx;exact Uj j hj (by omega)
  by_cases h5:l.length<=5
  ·have e2:decide ((l.length:Int)<=5)=true:=bh;by_cases h14:m.length<=14
   ·have e3:decide ((m.length:Int)<=14)=true:=bh;simp only[↓aL,aM,aJ,↓reduceIte,aa,ae,hl,g1,g5,Fl,D7,z8,De,e1,e2,e3];exact⟨true,rfl,fun _=>⟨Ui,sD,h5,h14⟩⟩
   ·have e3:decide ((m.length:Int)<=14)=false:=bj;simp only[↓aL,aM,aJ,↓reduceIte,aa,ae,hl,g1,g5,Fl,D7,z8,De,e1,e2,e3];exact⟨false,rfl,fun h=>by cases h⟩
  ·have e2:decide ((l.length:Int)<=5)=false:=bj;simp only[↓aL,aM,aJ,↓reduceIte,aa,ae,hl,g1,g5,Fl,D7,z8,De,e1,e2];exact⟨false,rfl,fun h=>by cases h⟩
 have e1:decide ((k:Int)<(m.length:Int))=true:=bh;have G4:AV.aK (FH m) m.length=iv:=(hA.iv.pos (by omega)).symm;have ck:=eT (i:=k) (n:=m.length) hd;have qd:=wz (z:=(k:Int)+1) (m:=k+1) (by omega) (by have:=hA.nm;omega);have pa:=aub (l:=m) (i:=k) (q:=6) (n:=3) hd (by omega);have hkn:∀h:((m[k]).s0.length<=20/\(m[k]).s1.length<=20/\(m[k]).s2.length<=20),∀j (hj:j<m.length),j<k+1->(m[j]).s0.length<=20/\(m[j]).s1.length<=20/\(m[j]).s2.length<=20:=by
  intro h j hj Bh;rcases aVr (aVs Bh)with h2|rfl
  ·exact Uj j hj h2
  ·exact h
 generalize m[k]=x at pa hkn;obtain⟨nm,pt,t0,t1,t2,t3,s0,s1,s2⟩:=x;simp only[C3,List.drop_succ_cons,List.drop_zero,List.take_succ_cons,List.take_zero]at pa
 dsimp only at hkn
 rw[<-G4]at D7 De riv S8;by_cases f0:20<s0.length
 ·have x0:decide ((s0.length:Int)>20)=true:=bh;simp only[↓aL,aM,aJ,cH,↓reduceIte,aa,ah,ae,an,aq,ar,hl,g1,g5,D7,De,ck,pa,x0,aK5,aLk];exact⟨false,rfl,fun h=>by cases h⟩
 have x0:decide ((s0.length:Int)>20)=false:=bj;by_cases f1:20<s1.length
 ·have x1:decide ((s1.length:Int)>20)=true:=bh;simp only[↓aL,aM,aJ,cH,↓reduceIte,aa,ah,ae,an,aq,ar,hl,g1,g5,D7,De,ck,pa,x0,x1,aK5,aLk];exact⟨false,rfl,fun h=>by cases h⟩
 have x1:decide ((s1.length:Int)>20)=false:=bj;by_cases f2:20<s2.length
 ·have x2:decide ((s2.length:Int)>20)=true:=bh;simp only[↓aL,aM,aJ,cH,↓reduceIte,aa,ah,ae,an,aq,ar,hl,g1,g5,D7,De,ck,pa,x0,x1,x2,aK5,aLk];exact⟨false,rfl,fun h=>by cases h⟩
 have x2:decide ((s2.length:Int)>20)=false:=bj;simp only[↓aL,aM,aJ,cH,↓reduceIte,aa,ah,ae,an,aq,ar,hl,g1,g5,D7,De,ck,pa,x0,x1,x2,qd,aK5,aLk];refine bK ?_;refine⟨_,?_,k+1,(H++[.cells .live [.str s0,.str s1,.str s2]]),rfl,(by simp[bc,hl]),?_⟩
 ·first|omega|(simp;omega)
 simp only[aZ,hl,aa,ae,g1]
 iterate 3 refine cG ?_
 refine⟨?_,?_,?_⟩
 ·omega
 ·exact hkn ⟨by omega,by omega,by omega⟩
 ·rw[aNB nR];exact h0
def Mx{pv iv:AV}{l:se}{m:Ins}(hA:Ix pv iv l m):
  ∃b:Bool,aR E 7 [.agg [pv,iv]]=some (.bool b)/\(b=true->(∀p∈l,p.cl.length=0)/\m.length=0):=by
 suffices hh:∃r,aR E 7 [.agg [pv,iv]]=some r/\∃b:Bool,r=.bool b/\(b=true->(∀p∈l,p.cl.length=0)/\m.length=0)by obtain⟨r,h1,b,rfl,h2⟩:=hh;exact⟨b,h1,h2⟩
 have z8:=hA.pv.len;have opv:=hA.pv.one;have rpv:=hA.pv.root;have De:=hA.iv.len;have S8:=hA.iv.one;have riv:=hA.iv.root;refine qj fn7 ?_;intro ts hl g0;unfold c7;simp only[↓aL,aM,Tryz.f7,g0];refine cE (fun k_ ts H=>∃i:Nat,k_=(l.length-i:Nat)/\ts.length=23/\gt ts 1=.bI 0 0/\gt ts 3=.int .i64 (i:Int)/\H=[.cells .live [pv,iv]]/\(i<=l.length)/\(∀j (hj:j<l.length),j<i->(l[j]).cl.length=0)) (l.length) ?_ ?_
 rotate_left
 ·refine⟨0,(by first|omega|rfl|simp),(by simp[bc,hl]),?_⟩;simp only[aZ,hl,aa,ae]
  iterate 3 refine cG ?_
  refine⟨?_,?_⟩
  ·first|omega|trivial
  ·first|(intro j _ hj;omega)|trivial
 clear hl g0 ts;rintro k_ ts H ⟨i,rfl,hl,g1,g3,rfl,hi,hq⟩;refine VS ?_;by_cases hd:i<l.length
 rotate_left
 ·have d1:decide ((i:Int)<(l.length:Int))=false:=bj;simp only[↓aL,aM,aJ,↓reduceIte,aa,ae,hl,g1,g3,z8,De,d1];refine⟨_,rfl,fun h=>⟨fun p hp=>?_,by simpa using h⟩⟩;obtain⟨j,hj,rfl⟩:=aWj hp;exact hq j hj (by omega)
 have d1:decide ((i:Int)<(l.length:Int))=true:=bh;have G4:AV.aK (vZ l) l.length=pv:=(hA.pv.pos (by omega)).symm;have ci:=eT (i:=i) (n:=l.length) hd;have mZ:=wz (z:=(i:Int)+1) (m:=i+1) (by omega) (by have:=hA.nl;omega);have pc:=HE (q:=2) hd (x:=(l[i]).cv) rfl;have hP:=hA.pt _ (aLr hd);have zO:=hP.cv.sv.len;have XE:=hP.cv.sv.root;have wH:(l[i]).cl.length=0->∀j (hj:j<l.length),j<i+1->(l[j]).cl.length=0:=by
  intro h j hj Bh;rcases aVr (aVs Bh)with h2|rfl
  ·exact hq j hj h2
  ·exact h
 generalize(l[i]).cv=cv at pc zO XE;generalize(l[i]).cl=cl at zO wH;subst G4;by_cases h2:0<cl.length
 ·have d2:decide ((cl.length:Int)>0)=true:=bh;simp only[↓aL,aM,aJ,↓reduceIte,aa,ae,hl,g1,g3,ci,pc,zO,d2];exact⟨false,rfl,fun h=>by cases h⟩
 have d2:decide ((cl.length:Int)>0)=false:=bj;simp only[↓aL,aM,aJ,↓reduceIte,aa,ae,hl,g1,g3,ci,mZ,pc,zO,d2];refine bK ?_;refine⟨_,?_,i+1,rfl,(by simp[bc,hl]),?_⟩
 ·first|omega|(simp;omega)
 simp only[aZ,hl,aa,ae,g1]
 iterate 3 refine cG ?_
 refine⟨?_,?_⟩
 ·omega
 ·exact wH (by omega)
end Go.Proofs.YtmkjgfnicfpjpaaGreatDoor
namespace Go.Proofs.YtmkjgfnicfpjpaaGreatDoor
open Go Go.ChangeShapes Go.WideShapes Go.ChangeAt Go.RowKit Go.ChangeMaps Dv
variable{E:Env}[C:Ctx E]
def aln{α:Type}{l:List α}(hl:l.length=2):∃a b,l=[a,b]:=by
 obtain _|⟨a,l⟩:=l
 ·simp at hl
 obtain _|⟨b,l⟩:=l
 ·simp at hl
 obtain _|⟨x,l⟩:=l
 ·exact⟨a,b,rfl⟩
 ·simp at hl
def N6{α:Type}{l:List α}(hl:l.length=3):∃a b c,l=[a,b,c]:=by
 obtain _|⟨a,l⟩:=l
 ·simp at hl
 obtain _|⟨b,l⟩:=l
 ·simp at hl
 obtain _|⟨c,l⟩:=l
 ·simp at hl
 obtain _|⟨x,l⟩:=l
 ·exact⟨a,b,c,rfl⟩
 ·simp at hl
def auB{α:Type}{l:List α}(hl:l.length=4):∃a b c d,l=[a,b,c,d]:=by
 obtain _|⟨a,l⟩:=l
 ·simp at hl
 obtain _|⟨b,l⟩:=l
 ·simp at hl
 obtain _|⟨c,l⟩:=l
 ·simp at hl
 obtain _|⟨d,l⟩:=l
 ·simp at hl
 obtain _|⟨x,l⟩:=l
 ·exact⟨a,b,c,d,rfl⟩
 ·simp at hl
def aAO{α:Type}{l:List α}(hl:l.length=7):∃a b c d e f g,l=[a,b,c,d,e,f,g]:=by
 obtain _|⟨a,l⟩:=l
 ·simp at hl
 obtain _|⟨b,l⟩:=l
 ·simp at hl
 obtain _|⟨c,l⟩:=l
 ·simp at hl
 obtain _|⟨d,l⟩:=l
 ·simp at hl
 obtain _|⟨e,l⟩:=l
 ·simp at hl
 obtain _|⟨f,l⟩:=l
 ·simp at hl
 obtain _|⟨g,l⟩:=l
 ·simp at hl
 obtain _|⟨x,l⟩:=l
 ·exact⟨a,b,c,d,e,f,g,rfl⟩
 ·simp at hl
def fieldsOf(t:TypeId):List (TypeId×Nat):=match Tryz.prog.underlying t with
 |some (.struct fs)=>fs.toList.map fun f=>(f.type,f.offset)
 |_=>[]
def th{t:TypeId}{p:TypeId×Nat}{ps:List (TypeId×Nat)}(h:fieldsOf t=p::ps):∃fs:List Field,Tryz.prog.underlying t=some (.struct fs.toArray)/\fs.map (fun f=>(f.type,f.offset))=p::ps:=by
 unfold fieldsOf at h;split at h
 ·rename_i fs hu;exact⟨fs.toList,by rw[hu],h⟩
 ·cases h
def Pv{b o m:Nat}:(⟨b,o,none⟩:Addr).add m=⟨b,o+m,none⟩:=by
 unfold Addr.add
 split
 ·rename_i h;subst h;rfl
 ·rfl
def u3:Tryz.prog.underlying 3=some (.int .i64):=by kernel_rfl
def u4:Tryz.prog.underlying 4=some .bool:=by kernel_rfl
def u9:Tryz.prog.underlying 9=some .string:=by kernel_rfl
def u41:Tryz.prog.underlying 41=some .string:=by kernel_rfl
def u43:Tryz.prog.underlying 43=some (.array 3 41):=by kernel_rfl
def u40:Tryz.prog.underlying 40=some (.array 4 3):=by kernel_rfl
def u89:Tryz.prog.underlying 89=some (.array 3 3):=by kernel_rfl
def u22:Tryz.prog.underlying 22=some (.slice 30):=by kernel_rfl
def u23:Tryz.prog.underlying 23=some (.slice 78):=by kernel_rfl
def u28:Tryz.prog.underlying 28=some (.slice 76):=by kernel_rfl
def u74:Tryz.prog.underlying 74=some (.slice 89):=by kernel_rfl
def cz3:Tryz.prog.cellsOf 3=1:=by kernel_rfl
def cz9:Tryz.prog.cellsOf 9=1:=by kernel_rfl
def axV:Tryz.prog.cellsOf 41=1:=by kernel_rfl
def aqw:Tryz.prog.cellsOf 43=3:=by kernel_rfl
def aqv:Tryz.prog.cellsOf 40=4:=by kernel_rfl
def axW:Tryz.prog.cellsOf 45=7:=by kernel_rfl
def aqz:Tryz.prog.cellsOf 89=3:=by kernel_rfl
def aqx:Tryz.prog.cellsOf 76=1:=by kernel_rfl
def aqs:Tryz.prog.cellsOf 30=3:=by kernel_rfl
def aqy:Tryz.prog.cellsOf 78=9:=by kernel_rfl
def axS:Tryz.prog.cellsOf 25=2:=by kernel_rfl
def axT:Tryz.prog.cellsOf 28=1:=by kernel_rfl
def axX:Tryz.prog.cellsOf 74=1:=by kernel_rfl
def axQ:Tryz.prog.cellsOf 22=1:=by kernel_rfl
def axR:Tryz.prog.cellsOf 23=1:=by kernel_rfl
def acO{t a o:Nat}(h:fieldsOf t=[(a,o)]):∃f0:Field,Tryz.prog.underlying t=some (.struct #[f0])/\(f0.type=a/\f0.offset=o):=by
 obtain⟨fs,hu,hm⟩:=th h;obtain _|⟨f0,_|⟨f1,l⟩⟩:=fs
 ·simp at hm
 ·simp at hm;exact⟨f0,hu,hm⟩
 ·simp at hm
def GU{t a o b q:Nat}(h:fieldsOf t=[(a,o),(b,q)]):∃f0 f1:Field,Tryz.prog.underlying t=some (.struct #[f0,f1])/\(f0.type=a/\f0.offset=o)/\(f1.type=b/\f1.offset=q):=by
 obtain⟨fs,hu,hm⟩:=th h;obtain _|⟨f0,_|⟨f1,_|⟨f2,l⟩⟩⟩:=fs
 ·simp at hm
 ·simp at hm
 ·simp at hm;exact⟨f0,f1,hu,hm⟩
 ·simp at hm
def PW{t a o b q c r:Nat}(h:fieldsOf t=[(a,o),(b,q),(c,r)]):∃f0 f1 f2:Field,Tryz.prog.underlying t=some (.struct #[f0,f1,f2])/\(f0.type=a/\f0.offset=o)/\(f1.type=b/\f1.offset=q)/\(f2.type=c/\f2.offset=r):=by
 obtain⟨fs,hu,hm⟩:=th h;obtain _|⟨f0,_|⟨f1,_|⟨f2,_|⟨f3,l⟩⟩⟩⟩:=fs
 ·simp at hm
 ·simp at hm
 ·simp at hm
 ·simp at hm;exact⟨f0,f1,f2,hu,hm⟩
 ·simp at hm
def QV{α:Type}{Q:Nat->α->Prop}:∀{n:Nat},(∀j,j<n->∃d,Q j d)->∃l:List α,l.length=n/\∀(j:Nat) (d:α),l[j]?=some d->Q j d
 |0,_=>⟨[],rfl,fun j d h=>by simp at h⟩
 |n+1,h=>by
  obtain⟨l,hl,hq⟩:=QV (n:=n) fun j hj=>h j (by omega)
  obtain⟨d,hd⟩:=h n (by omega);refine⟨l++[d],by simp[hl],fun j e he=>?_⟩;rw[List.getElem?_append]at he;by_cases hj:j<l.length
  ·rw[if_pos hj]at he;exact hq j e he
  ·rw[if_neg hj]at he;have h1:=(aKB.1 he).1;simp at h1
   have:j=n:=by omega
   subst this;rw[hl,Nat.sub_self]at he;simp at he;subst he;exact hd
section
variable{H:Type}{enc:TypeId×Value->H}{W:World}{base:Nat}{sp:Nat->Bool}{held:Bool}{fuel:Nat}
def xF(t:TypeId)(d:DataW H):Prop:=(d.weights Tryz.prog t).all (·<=reachBytes)=true
def avO{t:TypeId}:∀{l:List (DataW H)},(DataW.weightsAll Tryz.prog t l).all (·<=reachBytes)=true->∀d∈l,xF t d
 |[],_,_,h=>absurd h aVd
 |e::l,h,d,hd=>by
  simp only[DataW.weightsAll,aWo,aMh]at h;rcases aMp.1 hd with rfl|hd
  ·exact h.1
  ·exact avO h.2 d hd
def uY{α:Type}{row:α->List AV}{P:α->Prop}{tS tE k:Nat}(hu:Tryz.prog.underlying tS=some (.slice tE))(hc:Tryz.prog.cellsOf tE=k)(hk:0<k)(hby:0<Tryz.prog.bytesOf tE)
  (rZ:∀(m:Nat) (cs:List Value) (x:DataW H×List MemPlace),DataW.trod enc Tryz.prog W base sp held m tE cs=some x->xF tE x.1->∃d:α,P d/\(row d).length=k/\Rs cg W (fun _=>False) (row d) cs)
  {v:Value} {x:DataW H×List MemPlace} (h:DataW.trod enc Tryz.prog W base sp held fuel tS [v]=some x) (hw:xF tS x.1):
  ∃(l:List α) (lv:AV),SV lv (l.map row).flatten l.length/\R cg W (fun _=>False) lv v/\(∀d∈l,P d)/\l.length<=4611686018427387904:=by
 rcases DataW.trod_slice hu h with⟨e,-⟩|⟨a,len,cap,elems,rest,n,-,e,rfl,-,sq,Xu,aGg,su,-⟩
 ·simp only[List.cons.injEq,and_true]at e;subst e;exact⟨[],.aH,.inr ⟨rfl,.inl rfl⟩,by simp[R],fun _ h=>absurd h aVd,aLo _⟩
 ·simp only[List.cons.injEq,and_true]at e;subst e;by_cases h0:len=0
  ·subst h0;exact⟨[],.dx,.inr ⟨rfl,.inr rfl⟩,by simp[R],fun _ h=>absurd h aVd,aLo _⟩
  have hw':((DataW.weights Tryz.prog tS (.slice (elems.map (·.1)) (rest.map (·.1)))).all (·<=reachBytes))=true:=hw;simp only[DataW.weights,hu,List.all_cons,aWo,aMh,decide_eq_true_eq,List.length_map]at hw';obtain⟨w1,w2,-⟩:=hw';have hlw:len<=4611686018427387904:=by
   have h1:(elems.length+rest.length)*1<=(elems.length+rest.length)*Tryz.prog.bytesOf tE:=Nat.mul_le_mul_left _ hby
   have:reachBytes<=4611686018427387904:=by unfold reachBytes;omega
   omega
  have o5:∀j,j<len->∃d:α,P d/\(row d).length=k/\∀(q:Nat) (y:AV),(row d)[q]?=some y->∃u,W.cell? ((a.add (j*k)).add q)=some u/\R cg W (fun _=>False) y u:=by
   intro j hj;have hg:=su j hj;rw[hc,aLh (by omega),Option.bind_eq_some_iff]at hg;obtain⟨cs,h1,h2⟩:=hg;obtain⟨d,p1,p2,p3⟩:=rZ _ _ _ h2 (avO w2 _ (aMr.2 ⟨_,aLr _,rfl⟩));refine⟨d,p1,p2,fun q y hy=>?_⟩;obtain⟨u,g1,g2⟩:=p3.get q y hy;have hq:q<k:=by have:=(aKB.1 hy).1;omega
   have h3:=(World.cells?_some h1).2.2 q (by omega);exact⟨u,by rw[h3,g1],g2⟩
  have hsn:a.spot=none:=by
   obtain⟨d,p1,p2,p3⟩:=o5 0 (by omega);obtain⟨u,g,-⟩:=p3 0 _ (aLh (by omega));rw[show(a.add (0*k)).add 0=a by rw[Nat.zero_mul];rfl]at g;unfold World.cell? at g;split at g
   case h_2=>cases g
   cases hs:a.spot with
   |none=>rfl
   |some s=>rw[hs]at g;cases g
  obtain⟨bk,of,spt⟩:=a;simp only at hsn;subst hsn;obtain⟨l,hl,hq⟩:=QV o5;have hlen:∀r∈l.map row,r.length=k:=by intro r hr;obtain⟨d,hd,rfl⟩:=aMr.1 hr;obtain⟨j,hj⟩:=aLj hd;exact(hq j d hj).2.1
  obtain⟨c,e,f,hh⟩:∃c e f,W.heap[bk]?=some (.cells c e f):=by
   obtain⟨d,p1,p2,p3⟩:=o5 0 (by omega);obtain⟨u,g,-⟩:=p3 0 _ (aLh (by omega));rw[Pv,Pv]at g;unfold World.cell? at g;split at g
   case h_2=>cases g
   rename_i c e f hh;exact⟨c,e,f,hh⟩
  refine⟨l,.aK (l.map row).flatten l.length,.inl rfl,?_,fun d hd=>?_,by omega⟩
  ·simp only[R];refine⟨bk,of,cap,c,e,f,by rw[hl],by omega,hh,fun h=>h,iI.gR fun i y hy=>?_⟩;have Jp:(l.map row).flatten.length=l.length*k:=by have:=iY hlen;simpa using this
   have hi:i<l.length*k:=by have:=(aKB.1 hy).1;omega
   have tA:i/k<l.length:=Nat.div_lt_of_lt_mul (by rw[Nat.mul_comm];exact hi);have hiq:i%k<k:=Nat.mod_lt _ hk;obtain⟨p1,p2,p3⟩:=hq (i/k) _ (aLh tA);obtain⟨u,g1,g2⟩:=p3 (i%k) _ (aLh (by omega));have he:i/k*k+i%k=i:=by rw[Nat.mul_comm];exact Nat.div_add_mod i k
   have h4:=cell_of_row hlen (j:=i/k) (q:=i%k) (by rw[aMf,aLh tA];rfl) (aLh (by omega));rw[he]at h4;rw[hy]at h4;obtain rfl:=Option.some.inj h4;refine⟨u,?_,g2⟩;rw[Pv,Pv,aK5,he]at g1;unfold World.cell? at g1;have hh':W.heap[(⟨bk,of+i,none⟩:Addr).block]?=some (.cells c e f):=hh;simp only[hh']at g1;simpa using g1
  ·obtain⟨j,hj⟩:=aLj hd;exact(hq j d hj).1
def axl{n:Nat}(h:n<=reachBytes):n<=4611686018427387904:=by unfold reachBytes at h;omega
def DZ{t:TypeId}{l:List UInt8}(h:xF (H:=H) t (.lit (.string l))):l.length<=4611686018427387904:=by unfold xF at h;simp only[DataW.weights,List.all_cons,aQC,aQq,decide_eq_true_eq]at h;exact axl h
def aBD{t:TypeId}{f0:Field}(hu:Tryz.prog.underlying t=some (.struct #[f0])){a:DataW H}(h:xF t (.agg [a])):xF f0.type a:=by
 unfold xF at h⊢;simpa[DataW.weights,DataW.weightsEach,hu]using h
def avP{t:TypeId}{f0 f1:Field}(hu:Tryz.prog.underlying t=some (.struct #[f0,f1])){a b:DataW H}(h:xF t (.agg [a,b])):xF f0.type a/\xF f1.type b:=by unfold xF at h⊢;simp only[DataW.weights,DataW.weightsEach,hu,List.map_cons,List.map_nil,aWo,aQC,aQq,aMh]at h;exact h
def avQ{t:TypeId}{f0 f1 f2:Field}(hu:Tryz.prog.underlying t=some (.struct #[f0,f1,f2])){a b c:DataW H}(h:xF t (.agg [a,b,c])):xF f0.type a/\xF f1.type b/\xF f2.type c:=by unfold xF at h⊢;simp only[DataW.weights,DataW.weightsEach,hu,List.map_cons,List.map_nil,aWo,aQC,aQq,aMh]at h;exact h
def aBC{t e:TypeId}(hu:Tryz.prog.underlying t=some (.array 3 e)){a b c:DataW H}(h:xF t (.agg [a,b,c])):xF e a/\xF e b/\xF e c:=by unfold xF at h⊢;simp only[DataW.weights,DataW.weightsAll,hu,aWo,aQC,aQq,aMh]at h;exact h
def ZI{cs:List Value}{x:DataW H×List MemPlace}(h:DataW.trod enc Tryz.prog W base sp held fuel 89 cs=some x):∃d:I3,(qg d).length=3/\Rs cg W (fun _=>False) (qg d) cs:=by obtain⟨xs,m,rfl,rfl,hlen,hn,rZ⟩:=DataW.trod_array u89 h;rw[cz3]at rZ;rw[aqz]at hlen;have e0:=rZ 0 (by omega);have e1:=rZ 1 (by omega);have e2:=rZ 2 (by omega);obtain⟨y0,y1,y2,rfl⟩:∃y0 y1 y2,xs=[y0,y1,y2]:=N6 hn;obtain⟨d0,d1,d2,rfl⟩:∃y0 y1 y2,cs=[y0,y1,y2]:=N6 hlen;obtain⟨s0,k0,r0,-⟩:=DataW.trod_int u3 e0;obtain⟨s1,k1,r1,-⟩:=DataW.trod_int u3 e1;obtain⟨s2,k2,r2,-⟩:=DataW.trod_int u3 e2;simp at k0 k1 k2;subst k0 k1 k2;exact⟨⟨s0,s1,s2⟩,rfl,by simp[qg,Rs,R]⟩
def ZH{cs:List Value}{x:DataW H×List MemPlace}(h:DataW.trod enc Tryz.prog W base sp held fuel 43 cs=some x)(hw:xF 43 x.1):∃s0 s1 s2:List UInt8,cs=[.string ⟨s0.toArray⟩,.string ⟨s1.toArray⟩,.string ⟨s2.toArray⟩]/\s0.length<=4611686018427387904/\s1.length<=4611686018427387904/\s2.length<=4611686018427387904:=by obtain⟨xs,m,rfl,rfl,hlen,hn,rZ⟩:=DataW.trod_array u43 h;rw[axV]at rZ;rw[aqw]at hlen;have e0:=rZ 0 (by omega);have e1:=rZ 1 (by omega);have e2:=rZ 2 (by omega);obtain⟨y0,y1,y2,rfl⟩:∃y0 y1 y2,xs=[y0,y1,y2]:=N6 hn;obtain⟨d0,d1,d2,rfl⟩:∃y0 y1 y2,cs=[y0,y1,y2]:=N6 hlen;obtain⟨s0,k0,r0,-⟩:=DataW.trod_string u41 e0;obtain⟨s1,k1,r1,-⟩:=DataW.trod_string u41 e1;obtain⟨s2,k2,r2,-⟩:=DataW.trod_string u41 e2;simp at k0 k1 k2;subst k0 k1 k2 r0 r1 r2;obtain⟨w0,w1,w2⟩:=aBC u43 hw;exact⟨s0.data.toList,s1.data.toList,s2.data.toList,rfl,DZ w0,DZ w1,DZ w2⟩
def Tr{cs:List Value}{x:DataW H×List MemPlace}(h:DataW.trod enc Tryz.prog W base sp held fuel 40 cs=some x):∃s0 s1 s2 s3:Int,cs=[.int .i64 s0,.int .i64 s1,.int .i64 s2,.int .i64 s3]:=by obtain⟨xs,m,rfl,rfl,hlen,hn,rZ⟩:=DataW.trod_array u40 h;rw[cz3]at rZ;rw[aqv]at hlen;have e0:=rZ 0 (by omega);have e1:=rZ 1 (by omega);have e2:=rZ 2 (by omega);have e3:=rZ 3 (by omega);obtain⟨y0,y1,y2,y3,rfl⟩:∃y0 y1 y2 y3,xs=[y0,y1,y2,y3]:=auB hn;obtain⟨d0,d1,d2,d3,rfl⟩:∃y0 y1 y2 y3,cs=[y0,y1,y2,y3]:=auB hlen;obtain⟨s0,k0,r0,-⟩:=DataW.trod_int u3 e0;obtain⟨s1,k1,r1,-⟩:=DataW.trod_int u3 e1;obtain⟨s2,k2,r2,-⟩:=DataW.trod_int u3 e2;obtain⟨s3,k3,r3,-⟩:=DataW.trod_int u3 e3;simp at k0 k1 k2 k3;subst k0 k1 k2 k3;exact⟨s0,s1,s2,s3,rfl⟩
def Tp{cs:List Value}{x:DataW H×List MemPlace}(h:DataW.trod enc Tryz.prog W base sp held fuel 76 cs=some x)(hw:xF 76 x.1):∃c:Cl,E4 c.1 c.2/\([c.1]:List AV).length=1/\Rs cg W (fun _=>False) [c.1] cs:=by
 obtain⟨f0,hu,⟨t0,o0⟩⟩:=acO (show fieldsOf 76=[(74,0)]by kernel_rfl);obtain⟨xs,m,rfl,rfl,hlen,hn,rZ⟩:=DataW.trod_struct hu h;rw[aqx]at hlen;have e0:=rZ 0 f0 rfl;rw[t0,o0,axX]at e0;obtain _|⟨y0,_|⟨y1,l⟩⟩:=xs
 ·simp at hn
 ·obtain _|⟨d0,_|⟨d1,l⟩⟩:=cs
  ·simp at hlen
  ·simp at e0;have w0:=aBD hu hw;rw[t0]at w0;obtain⟨l,lv,h1,h2,-,h3⟩:=uY (row:=qg) (P:=fun _=>True) u74 aqz (by omega) (by rw[show Tryz.prog.bytesOf 89=24 by kernel_rfl];omega) (fun m cs x hx _=>by
    obtain⟨d,g1,g2⟩:=ZI hx;exact⟨d,trivial,g1,g2⟩) e0 w0
   refine⟨(lv,l),?_,rfl,by simp[Rs,h2]⟩;rcases h1 with h1|⟨h1,h4⟩
   ·exact .inl h1
   ·exact .inr ⟨aWp.1 h1,h4⟩
  ·simp at hlen
 ·simp at hn
def Jf{α:Type}(f:α->AV):∀l:List α,(l.map fun c=>[f c]).flatten=l.map f
 |[]=>rfl
 |a::l=>by simp[Jf f l]
def Ts{cs:List Value}{x:DataW H×List MemPlace}(h:DataW.trod enc Tryz.prog W base sp held fuel 30 cs=some x)(hw:xF 30 x.1):
  ∃p:nF,(zn p/\p.cl.length<=4611686018427387904/\p.nm.length<=4611686018427387904)/\(sa p).length=3/\Rs cg W (fun _=>False) (sa p) cs:=by
 obtain⟨f0,f1,f2,hu,⟨t0,o0⟩,⟨t1,o1⟩,⟨t2,o2⟩⟩:=PW (show fieldsOf 30=[(9,0),(3,1),(28,2)]by kernel_rfl);obtain⟨xs,m,rfl,rfl,hlen,hn,rZ⟩:=DataW.trod_struct hu h;rw[aqs]at hlen;have e0:=rZ 0 f0 rfl;have e1:=rZ 1 f1 rfl;have e2:=rZ 2 f2 rfl;rw[t0,o0,cz9]at e0;rw[t1,o1,cz3]at e1;rw[t2,o2,axT]at e2;obtain⟨y0,y1,y2,rfl⟩:∃y0 y1 y2,xs=[y0,y1,y2]:=N6 hn;obtain⟨d0,d1,d2,rfl⟩:∃y0 y1 y2,cs=[y0,y1,y2]:=N6 hlen;obtain⟨s0,k0,r0,-⟩:=DataW.trod_string u9 e0;obtain⟨s1,k1,r1,-⟩:=DataW.trod_int u3 e1;simp at k0 k1 e2;obtain⟨w0,w1,w2⟩:=avQ hu hw;subst k0 k1 r0 r1;rw[t2]at w2;obtain⟨l,lv,h1,h2,h3,h4⟩:=uY (row:=fun c:Cl=>[c.1]) (P:=fun c=>E4 c.1 c.2) u28 aqx (by omega) (by rw[show Tryz.prog.bytesOf 76=24 by kernel_rfl];omega) (fun m cs x hx hwx=>Tp hx hwx) e2 w2;rw[Jf]at h1;refine⟨⟨s0.data.toList,s1,lv,l⟩,⟨⟨?_,h3⟩,h4,DZ w0⟩,rfl,by simp only[sa,Rs];exact⟨_,_,rfl,by simp[R],_,_,rfl,by simp[R],_,_,rfl,h2,rfl⟩⟩;rcases h1 with h1|⟨h1,h5⟩
 ·exact .inl h1
 ·exact .inr ⟨aWp.1 h1,h5⟩
def Tq{cs:List Value}{x:DataW H×List MemPlace}(h:DataW.trod enc Tryz.prog W base sp held fuel 78 cs=some x)(hw:xF 78 x.1):
  ∃p:vN,((p.nm.length<=4611686018427387904/\p.pt.length<=4611686018427387904)/\p.s0.length<=4611686018427387904/\p.s1.length<=4611686018427387904/\p.s2.length<=4611686018427387904)/\(C3 p).length=9/\Rs cg W (fun _=>False) (C3 p) cs:=by
 obtain⟨f0,f1,f2,hu,⟨t0,o0⟩,⟨t1,o1⟩,⟨t2,o2⟩⟩:=PW (show fieldsOf 78=[(9,0),(9,1),(45,2)]by kernel_rfl);obtain⟨xs,m,rfl,rfl,hlen,hn,rZ⟩:=DataW.trod_struct hu h;rw[aqy]at hlen;have e0:=rZ 0 f0 rfl;have e1:=rZ 1 f1 rfl;have e2:=rZ 2 f2 rfl;rw[t0,o0,cz9]at e0;rw[t1,o1,cz9]at e1;rw[t2,o2,axW]at e2;obtain⟨y0,y1,y2,rfl⟩:∃y0 y1 y2,xs=[y0,y1,y2]:=N6 hn;obtain⟨d0,cs,rfl⟩:∃y l,cs=y::l:=by cases cs<;>simp_all
 obtain⟨d1,cs,rfl⟩:∃y l,cs=y::l:=by cases cs<;>simp_all
 obtain⟨d2,d3,d4,d5,d6,d7,d8,rfl⟩:∃y0 y1 y2 y3 y4 y5 y6,cs=[y0,y1,y2,y3,y4,y5,y6]:=aAO (by simpa using hlen);obtain⟨s0,k0,r0,-⟩:=DataW.trod_string u9 e0;obtain⟨s1,k1,r1,-⟩:=DataW.trod_string u9 e1;simp at k0 k1 e2;obtain⟨w0,w1,w2⟩:=avQ hu hw;subst k0 k1 r0 r1;rw[t2]at w2;obtain⟨g0,g1,hu2,⟨q0,v0⟩,⟨q1,v1⟩⟩:=GU (show fieldsOf 45=[(40,0),(43,4)]by kernel_rfl);obtain⟨zs,m2,Eb,hy2,Xq,xh,asO⟩:=DataW.trod_struct hu2 e2;have a0:=asO 0 g0 rfl;have a1:=asO 1 g1 rfl;rw[q0,v0,aqv]at a0;rw[q1,v1,aqw]at a1;obtain⟨z0,z1,rfl⟩:∃y0 y1,zs=[y0,y1]:=aln xh;simp at a0 a1;rw[hy2]at w2;obtain⟨w3,w4⟩:=avP hu2 w2;rw[q1]at w4;obtain⟨i0,i1,i2,i3,k3⟩:=Tr a0;obtain⟨b0,b1,b2,k4,n0,n1,n2⟩:=ZH a1 w4;simp at k3 k4;obtain⟨rfl,rfl,rfl,rfl⟩:=k3;obtain⟨rfl,rfl,rfl⟩:=k4;exact⟨⟨s0.data.toList,s1.data.toList,i0,i1,i2,i3,b0,b1,b2⟩,⟨⟨DZ w0,DZ w1⟩,n0,n1,n2⟩,rfl,by simp[C3,Rs,R]⟩
def ZG{cs:List Value}{x:DataW H×List MemPlace}(h:DataW.trod enc Tryz.prog W base sp held fuel 25 cs=some x)(hw:xF 25 x.1):
  ∃(pv iv:AV) (l:se) (m:Ins),Ix pv iv l m/\Rs cg W (fun _=>False) [pv,iv] cs:=by
 obtain⟨f0,f1,hu,⟨t0,o0⟩,⟨t1,o1⟩⟩:=GU (show fieldsOf 25=[(22,0),(23,1)]by kernel_rfl);obtain⟨xs,m,rfl,rfl,hlen,hn,rZ⟩:=DataW.trod_struct hu h;rw[axS]at hlen;have e0:=rZ 0 f0 rfl;have e1:=rZ 1 f1 rfl;rw[t0,o0,axQ]at e0;rw[t1,o1,axR]at e1;obtain⟨y0,y1,rfl⟩:∃y0 y1,xs=[y0,y1]:=aln hn;obtain⟨d0,d1,rfl⟩:∃y0 y1,cs=[y0,y1]:=aln hlen;simp at e0 e1;obtain⟨w0,w1⟩:=avP hu hw;rw[t0]at w0;rw[t1]at w1;obtain⟨l,pv,a1,a2,a3,a4⟩:=uY (row:=sa) u22 aqs (by omega) (by rw[show Tryz.prog.bytesOf 30=48 by kernel_rfl];omega) (fun m cs x hx hwx=>Ts hx hwx) e0 w0;obtain⟨k,iv,b1,b2,b3,b4⟩:=uY (row:=C3) u23 aqy (by omega) (by rw[show Tryz.prog.bytesOf 78=112 by kernel_rfl];omega) (fun m cs x hx hwx=>Tq hx hwx) e1 w1;exact⟨pv,iv,l,k,⟨a1,b1,fun p hp=>(a3 p hp).1,a4,b4,fun p hp=>(a3 p hp).2.1,fun p hp=>(a3 p hp).2.2,b3⟩,by simp only[Rs];exact⟨_,_,rfl,a2,_,_,rfl,b2,rfl⟩⟩
end
end Go.Proofs.YtmkjgfnicfpjpaaGreatDoor
