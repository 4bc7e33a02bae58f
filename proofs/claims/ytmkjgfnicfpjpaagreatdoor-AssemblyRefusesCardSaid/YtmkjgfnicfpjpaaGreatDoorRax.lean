/- Lemmas for AssemblyRefuses; no condition. -/
import Derived.Test.YtmkjgfnicfpjpaaGreatDoorRaw
import Derived.ProofKit
import Derived.LaidMore
import Derived.OpenShut
import Derived.Stop.Joined
import Derived.SevenTiedAt
import Derived.Carry
set_option linter.all false
set_option maxHeartbeats 100000000
set_option maxRecDepth 100000
noncomputable section
open List renaming getElem?_eq_getElem->aL6,getElem?_append_left->aOr,getElem_mem->aMg,getElem?_eq_some_iff->aLq,length_append->aL9,getD_eq_getElem?_getD->aT1,append_assoc->aUi,all_append->aW7,getElem_of_mem->aW2,getElem?_map->aM4,mem_map->aNg,not_mem_nil->aV0,all_nil->aRr,length_eq_zero_iff->aWl,getElem?_set_self->aOl,set_append_left->aWg,getElem?_set_ne->aOj,mem_of_mem_take->aRC,getElem?_of_mem->aL8,mem_cons->aNe,mem_map_of_mem->aW8,take_add_one->aW9,length_take->aPl
open Nat renaming lt_or_eq_of_le->aUh,zero_add->aL5,le_of_lt_succ->aUl,add_assoc->aLU,add_zero->aPm,zero_le->aMd,reduceLT->aa,reduceEqDiff->ae,reduceAdd->ah,reduceLeDiff->ai
open Bool renaming and_eq_true->aM6,and_true->aRf
open Int renaming reduceLE->an,reduceLT->aq,reduceToNat->ar
namespace Go.Proofs.YtmkjgfnicfpjpaaGreatDoor
open Go Dv Dv.dk
variable{E:Env}[C:Ctx E]
def rB(f:Nat->Int):Nat->Nat->Int
 |_,0=>0
 |i,n+1=>if f i≠0 then f i else rB f (i+1) n
def tA{f:Nat->Int}:∀{n i k:Nat},k<n->(∀j,j<k->f (i+j)=0)->f (i+k)≠0->rB f i n=f (i+k)
 |0,_,_,h,_,_=>by omega
 |n+1,i,0,_,_,h=>by simp only[aPm]at h⊢;simp[rB,h]
 |n+1,i,k+1,hk,hj,h=>by
  have h0:=hj 0 (by omega);rw[aPm]at h0;have ih:=tA (f:=f) (n:=n) (i:=i+1) (k:=k) (by omega) (fun j LN=>by have:=hj (j+1) (by omega);rwa[show i+(j+1)=i+1+j by omega]at this) (by rwa[show i+(k+1)=i+1+k by omega]at h);rw[show i+(k+1)=i+1+k by omega];simp[rB,h0,ih]
def mN{f:Nat->Int}:∀{n i:Nat},(∀j,j<n->f (i+j)=0)->rB f i n=0
 |0,_,_=>rfl
 |n+1,i,h=>by
  have h0:=h 0 (by omega);rw[aPm]at h0;have ih:=mN (f:=f) (n:=n) (i:=i+1) fun j hj=>by have:=h (j+1) (by omega);rwa[show i+(j+1)=i+1+j by omega]at this
  simp[rB,h0,ih]
structure sP where
 sc:qu->Int
 mc:pE->Int
structure xC(E:Env)(K:sP)(l:pX)(m:Ins):Prop where
 sc:∀p∈l,aP E 33 [.agg (AS p)]=some (.int .i64 (K.sc p))
 mc:∀x∈m,aP E 34 [.agg [.int .i64 x.t0,.int .i64 x.t1,.int .i64 x.t2,.int .i64 x.t3,.str x.s0,.str x.s1,.str x.s2]]=some (.int .i64 (K.mc x))
def xd0:pE:=⟨[],[],0,0,0,0,[],[],[]⟩
def fG(l:pX):List (List UInt8):=l.map (·.nm)
def km(m:Ins):List (List UInt8):=m.map (·.nm)
def kY(K:sP)(l:pX)(i:Nat):Int:=if gP (fG (l.take i)) (l.getD i pd0).nm≠0 then gP (fG (l.take i)) (l.getD i pd0).nm else K.sc (l.getD i pd0)
def qT(K:sP)(l:pX)(m:Ins)(i:Nat):Int:=if gP (km (m.take i)) (m.getD i xd0).nm≠0 then gP (km (m.take i)) (m.getD i xd0).nm else if(m.getD i xd0).pt∈fG l then K.mc (m.getD i xd0)else 16
def wG(K:sP)(l:pX)(m:Ins):Int:=
 if 64<l.length then 6 else
 if rB (kY K l) 0 l.length≠0 then rB (kY K l) 0 l.length else
 if 12<m.length then 6 else rB (qT K l m) 0 m.length
def IU{K:sP}{l:pX}{m:Ins}(h:64<l.length):wG K l m=6:=by unfold wG;rw[if_pos h]
def Wb{K:sP}{l:pX}{m:Ins}(h:¬64<l.length){k:Nat}(hk:k<l.length)(hj:∀j,j<k->kY K l j=0)(h0:kY K l k≠0):wG K l m=kY K l k:=by
 have:=tA (f:=kY K l) (i:=0) hk (fun j LN=>by rw[aL5];exact hj j LN) (by rwa[aL5])
 rw[aL5]at this;unfold wG;rw[if_neg h,this,if_pos h0]
def Wa{K:sP}{l:pX}{m:Ins}(h:¬64<l.length)(hj:∀j,j<l.length->kY K l j=0)(h12:12<m.length):wG K l m=6:=by
 have:=mN (f:=kY K l) (i:=0) (n:=l.length) (fun j LN=>by rw[aL5];exact hj j LN)
 unfold wG;rw[if_neg h,this,if_neg (by simp),if_pos h12]
def V9{K:sP}{l:pX}{m:Ins}(h:¬64<l.length)(hp:∀j,j<l.length->kY K l j=0)(h12:¬12<m.length){k:Nat}(hk:k<m.length)(hj:∀j,j<k->qT K l m j=0)(h0:qT K l m k≠0):wG K l m=qT K l m k:=by have h1:=mN (f:=kY K l) (i:=0) (n:=l.length) (fun j LN=>by rw[aL5];exact hp j LN);have h2:=tA (f:=qT K l m) (i:=0) hk (fun j LN=>by rw[aL5];exact hj j LN) (by rwa[aL5]);rw[aL5]at h2;unfold wG;rw[if_neg h,h1,if_neg (by simp),if_neg h12,h2]
def PM{K:sP}{l:pX}{m:Ins}(h:¬64<l.length)(hp:∀j,j<l.length->kY K l j=0)(h12:¬12<m.length)(hj:∀j,j<m.length->qT K l m j=0):wG K l m=0:=by have h1:=mN (f:=kY K l) (i:=0) (n:=l.length) (fun j LN=>by rw[aL5];exact hp j LN);have h2:=mN (f:=qT K l m) (i:=0) (n:=m.length) (fun j LN=>by rw[aL5];exact hj j LN);unfold wG;rw[if_neg h,h1,if_neg (by simp),if_neg h12,h2]
def ae0{l:pX}{i:Nat}(hi:i<l.length):fG (l.take (i+1))=fG (l.take i)++[(l.getD i pd0).nm]:=by unfold fG;rw[aW9,aL6 hi,aT1,aL6 hi,List.map_append];rfl
def aeZ{l:Ins}{i:Nat}(hi:i<l.length):km (l.take (i+1))=km (l.take i)++[(l.getD i xd0).nm]:=by unfold km;rw[aW9,aL6 hi,aT1,aL6 hi,List.map_append];rfl
structure UL(pv iv:AV)(l:pX)(m:Ins):Prop where
 pv:SV pv (AR l) l.length
 iv:SV iv (C5 m) m.length
 Uy:∀p∈l,L5 p.cv
 nl:l.length<1000000000
 nm:m.length<1000000000
 ps:∀p∈l,p.nm.length<=4611686018427387904
 is:∀x∈m,x.nm.length<=4611686018427387904/\x.pt.length<=4611686018427387904
def Y1{aR:Nat}:qI E aR 84 none=some (.eR aR,[(aR,yE [])]):=adY
def IC{pv iv:AV}{l:pX}{m:Ins}{K:sP}(hA:UL pv iv l m)(hK:64<l.length∨xC E K l m):
  aP E 12 [.agg [pv,iv]]=some (.int .i64 (wG K l m)):=by
 suffices hh:∃r,aP E 12 [.agg [pv,iv]]=some r/\r=.int .i64 (wG K l m)by obtain⟨r,h1,rfl⟩:=hh;exact h1
 have LX:=hA.pv.len;have opv:=hA.pv.one;have rpv:=hA.pv.root;have EO:=hA.iv.len;have oiv:=hA.iv.one;have riv:=hA.iv.root;have mkm:=fun aR=>Y1 (E:=E) (aR:=aR)
 refine nY ayf ?_;intro ts hl g0;unfold c12;by_cases h64:64<l.length
 ·have d0:decide ((l.length:Int)>64)=true:=bj;simp only[↓aL,aM,aJ,aa,ae,Tryz.f12,hl,g0,LX,d0];rw[IU h64]
 have K2:xC E K l m:=hK.resolve_left h64;have d0:decide ((l.length:Int)>64)=false:=bh (by omega);simp only[↓aL,aM,aJ,aa,ah,ae,Tryz.f12,hl,g0,LX,d0,mkm];refine cC (fun k_ ts H=>∃i:Nat,∃H1:Hp,k_=(l.length-i:Nat)/\ts.length=69/\gt ts 1=.bK 0 0/\gt ts 3=.eR 1/\gt ts 19=pv/\gt ts 20=.int .i64 (l.length:Int)/\gt ts 21=.int .i64 (i:Int)/\H=H1/\(i<=l.length)/\(∀j,j<i->kY K l j=0)/\(H1[0]?=some (.cells .live [pv,iv]))/\(H1[1]?=some (yE (fG (l.take i))))) (l.length) ?_ ?_
 rotate_left
 ·refine⟨0,[.cells .live [pv,iv],yE []],(by first|omega|rfl|simp),(by simp[bc,hl]),?_⟩;simp only[aY,hl,aa,ae]
  iterate 6 refine cI ?_
  refine⟨?_,?_,?_,?_⟩
  ·first|omega|trivial
  ·first|(intro j hj;omega)|trivial
  ·first|rfl|trivial
  ·first|rfl|trivial
 clear hl g0 ts;rintro k_ ts H ⟨i,H1,rfl,hl,g1,g3,g19,g20,g21,rfl,hi,hq,h0,h1⟩;refine VS ?_;by_cases hd:i<l.length
 ·have d1:decide ((i:Int)<(l.length:Int))=true:=bj;have M6:AV.aK (AR l) l.length=pv:=(hA.pv.pos (by omega)).symm;rw[<-M6]at g19;have ci:=eP (i:=i) (n:=l.length) hd;have lP:=wz (z:=(i:Int)+1) (m:=i+1) (by omega) (by have:=hA.nl;omega);have pa:=DK hd;have hgd:l.getD i pd0=l[i]:=by rw[aT1,aL6 hd];rfl
  have G4:=(hA.Uy _ (aMg hd)).facts;have mh:=hA.ps _ (aMg hd);have LU:=K2.sc _ (aMg hd);have dx:kY K l i=if gP (fG (l.take i)) (l[i]).nm≠0 then gP (fG (l.take i)) (l[i]).nm else K.sc l[i]:=by unfold kY;rw[hgd]
  have M9:=ae0 hd;rw[hgd]at M9;have Ea:=CN (E:=E) (H:=H++[.cells .live (AS l[i])]) (b:=1) (ks:=fG (l.take i)) (s:=(l[i]).nm) (by rw[aOr (aLq.1 h1).1];exact h1) mh;have oC:=fun h=>Wb (m:=m) h64 hd hq h
  generalize pN:K.sc l[i]=cs at dx LU;generalize hcf:gP (fG (l.take i)) (l[i]).nm=cf at dx Ea;generalize hpd:l[i]=p at pa G4 mh LU Ea M9;obtain⟨nm,dn,cv,cl⟩:=p;simp only[AS]at pa LU Ea;by_cases MU:cf=0
  rotate_left
  ·have b0:(cf !=0)=true:=by simpa using MU
   rw[if_neg MU]at Ea;rw[if_pos MU]at dx;simp only[↓aL,aM,↓aS,aJ,ct,↓reduceIte,aa,ah,ae,hl,g3,g19,g20,g21,ci,pa,G4,Ea,b0];rw[oC (by rw[dx];exact MU),dx]
  have b0:(cf !=0)=false:=by simp[MU]
  rw[if_pos MU]at Ea;rw[if_neg (by simpa using MU)]at dx;have Xv:=(aLq.1 h1).1;obtain⟨H2,y7⟩:∃H2,H2=H.set 1 (yE (fG (l.take i)++[nm])):=⟨_,rfl⟩;rw[dT (by rw[aL9];omega),aWg _ _ Xv,<-y7]at Ea;have yk:H2.length=H.length:=by rw[y7];simp
  by_cases C1:cs=0
  rotate_left
  ·have b1:(cs !=0)=true:=by simpa using C1
   simp only[↓aL,aM,↓aS,aJ,ct,↓reduceIte,aa,ah,ae,hl,g3,g19,g20,g21,ci,pa,G4,Ea,b0,LU,b1,yk];rw[oC (by rw[dx];exact C1),dx]
  have b1:(cs !=0)=false:=by simp[C1]
  simp only[↓aL,aM,↓aS,aJ,ct,↓reduceIte,aa,ah,ae,hl,g3,g19,g20,g21,ci,lP,pa,G4,Ea,b0,LU,b1,yk];refine bI ?_;refine⟨_,?_,i+1,(H2++[.cells .live [.str nm,.int .i64 dn,cv]]),rfl,(by simp[bc,hl]),?_⟩
  ·first|omega|(simp;omega)
  simp only[aY,hl,aa,ae,g1,g3,g19,g20]
  iterate 6 refine cI ?_
  refine⟨?_,?_,?_,?_⟩
  ·omega
  ·intro j hj;rcases aUh (aUl hj)with h|rfl
   ·exact hq j h
   ·rw[dx];exact C1
  ·have tK:=(aLq.1 h0).1;rw[aOr (by omega),y7,aOj (by omega)];exact h0
  ·rw[aOr (by omega),y7,aOl Xv,M9]
 have hie:i=l.length:=by omega
 have d1:decide ((i:Int)<(l.length:Int))=false:=bh (by omega);have tK:=(aLq.1 h0).1;have Xv:=(aLq.1 h1).1;have D8:cellAt H 0 1=some iv:=by rw[bY,h0];rfl
 have hqa:∀j,j<l.length->kY K l j=0:=fun j hj=>hq j (by omega)
 rw[hie,List.take_length]at h1;by_cases h12:12<m.length
 ·have d2:decide ((m.length:Int)>12)=true:=bj;simp only[↓aL,aM,aJ,↓reduceIte,aa,ae,hl,g1,g20,g21,d1,D8,EO,d2];rw[Wa h64 hqa h12]
 have d2:decide ((m.length:Int)>12)=false:=bh (by omega);have IP:∀{T:Hp},cellAt (H++T) 0 1=some iv:=by intro T;rw[bY,aOr tK,h0];rfl
 have pbn:∀{x:cE},cO H H.length x=H++[x]:=fun{x}=>eK
 simp only[↓aL,aM,aJ,↓reduceIte,aa,ae,hl,g1,g20,g21,d1,D8,IP,EO,d2,mkm,pbn];obtain⟨B,hB⟩:∃B,B=H.length:=⟨_,rfl⟩;rw[<-hB];have hB1:1<B:=by omega
 refine cC (fun k_ ts H=>∃k:Nat,∃H1:Hp,k_=(m.length-k:Nat)/\ts.length=69/\gt ts 3=.eR 1/\gt ts 8=.eR B/\gt ts 44=iv/\gt ts 45=.int .i64 (m.length:Int)/\gt ts 46=.int .i64 (k:Int)/\H=H1/\(k<=m.length)/\(∀j,j<k->qT K l m j=0)/\(H1[1]?=some (yE (fG l)))/\(H1[B]?=some (yE (km (m.take k))))) (m.length) ?_ ?_
 rotate_left
 ·refine⟨0,(H++[yE []]),(by first|omega|rfl|simp),(by simp[bc,hl]),?_⟩;simp only[aY,hl,aa,ae,g3]
  iterate 6 refine cI ?_
  refine⟨?_,?_,?_,?_⟩
  ·first|omega|trivial
  ·first|(intro j hj;omega)|trivial
  ·first|(rw[aOr Xv];exact h1)|trivial
  ·first|(rw[hB];simp;rfl)|trivial
 clear hl g1 g3 g19 g20 g21 ts;rintro k_ ts H ⟨k,H1,rfl,hl,g3,g8,Bc,MQ,W7,rfl,hk,Us,h1,hb⟩;refine VS ?_;by_cases hd:k<m.length
 rotate_left
 ·have e1:decide ((k:Int)<(m.length:Int))=false:=bh (by omega);simp only[↓aL,aM,↓reduceIte,aa,hl,MQ,W7,e1];rw[PM h64 hqa h12 (fun j hj=>Us j (by omega))]
 have e1:decide ((k:Int)<(m.length:Int))=true:=bj;have M6:AV.aK (C5 m) m.length=iv:=(hA.iv.pos (by omega)).symm;rw[<-M6]at Bc;have ck:=eP (i:=k) (n:=m.length) hd;have qm:=wz (z:=(k:Int)+1) (m:=k+1) (by omega) (by have:=hA.nm;omega);have pa:=zT hd;have hgd:m.getD k xd0=m[k]:=by rw[aT1,aL6 hd];rfl
 have mh:=hA.is _ (aMg hd);have Uq:=K2.mc _ (aMg hd);have dx:qT K l m k=if gP (km (m.take k)) (m[k]).nm≠0 then gP (km (m.take k)) (m[k]).nm else if(m[k]).pt∈fG l then K.mc m[k]else 16:=by unfold qT;rw[hgd]
 have M9:=aeZ hd;rw[hgd]at M9;have aky:=(aLq.1 hb).1;have Ea:=CN (E:=E) (H:=H++[.cells .live (yt m[k])]) (b:=B) (ks:=km (m.take k)) (s:=(m[k]).nm) (by rw[aOr aky];exact hb) mh.1;have oC:=fun h=>V9 h64 hqa h12 hd Us h
 generalize pN:K.mc m[k]=cs at dx Uq;generalize hcf:gP (km (m.take k)) (m[k]).nm=cf at dx Ea;generalize hxd:m[k]=x at pa mh Uq Ea M9 dx;obtain⟨nm,pt,t0,t1,t2,t3,s0,s1,s2⟩:=x;simp only[yt]at pa Uq Ea
 dsimp only at dx M9
 by_cases MU:cf=0
 rotate_left
 ·have b0:(cf !=0)=true:=by simpa using MU
  rw[if_neg MU]at Ea;rw[if_pos MU]at dx;simp only[↓aL,aM,↓aS,aJ,ct,↓reduceIte,aa,ah,ae,hl,g8,Bc,MQ,W7,ck,pa,Ea,b0];rw[oC (by rw[dx];exact MU),dx]
 have b0:(cf !=0)=false:=by simp[MU]
 rw[if_pos MU]at Ea;rw[if_neg (by simpa using MU)]at dx;obtain⟨H2,y7⟩:∃H2,H2=H.set B (yE (km (m.take k)++[nm])):=⟨_,rfl⟩;rw[dT (by rw[aL9];omega),aWg _ _ aky,<-y7]at Ea;have yk:H2.length=H.length:=by rw[y7];simp
 have h21:H2[1]?=some (yE (fG l)):=by rw[y7,aOj (by omega)];exact h1
 have Qo:pQ E 84 9 4=true:=BL C;have heq:=fun a b=>Rx (E:=E) a b
 have hmb:∀{T:Hp},(H2++T)[1]?=some (.map .live ((fG l).map AV.str) ((fG l).map fun _=>AV.bool true)):=by intro T;rw[aOr (by omega)];exact h21
 by_cases vP:pt∈fG l
 rotate_left
 ·have ym:=fun{T:Hp}=>uM (enc:=AV.str) (ok:=false) Qo heq (hmb (T:=T)) (by simp) vP (Ii (E:=E))
  simp only[Bool.false_eq_true,if_false]at ym;rw[if_neg vP]at dx;simp only[↓aL,aM,↓aS,aJ,ct,↓reduceIte,aa,ah,ae,hl,g3,g8,Bc,MQ,W7,ck,pa,Ea,b0,ym,yk];rw[oC (by rw[dx];decide),dx]
 have ym:∀{T:Hp},jU E (H2++T) 84 (.eR 1) (.str pt) false=some (.bool true):=by
  intro T;obtain⟨q,hq,ym⟩:=rC (enc:=AV.str) (ok:=false) Qo heq (hmb (T:=T)) (by simp) vP;rw[show(((fG l).map fun _=>AV.bool true).getD q bT)=.bool true by simp[aT1,hq]]at ym;simpa using ym
 rw[if_pos vP]at dx;by_cases C1:cs=0
 rotate_left
 ·have b1:(cs !=0)=true:=by simpa using C1
  simp only[↓aL,aM,↓aS,aJ,ct,↓reduceIte,aa,ah,ae,hl,g3,g8,Bc,MQ,W7,ck,pa,Ea,b0,ym,Uq,b1,yk];rw[oC (by rw[dx];exact C1),dx]
 have b1:(cs !=0)=false:=by simp[C1]
 simp only[↓aL,aM,↓aS,aJ,ct,↓reduceIte,aa,ah,ae,hl,g3,g8,Bc,MQ,W7,ck,qm,pa,Ea,b0,ym,Uq,b1,yk];refine bI ?_;refine⟨_,?_,k+1,(H2++[.cells .live [.str nm,.str pt,.int .i64 t0,.int .i64 t1,.int .i64 t2,.int .i64 t3,.str s0,.str s1,.str s2]]),rfl,(by simp[bc,hl]),?_⟩
 ·first|omega|(simp;omega)
 simp only[aY,hl,aa,ae,g3,g8,Bc,MQ]
 iterate 6 refine cI ?_
 refine⟨?_,?_,?_,?_⟩
 ·omega
 ·intro j hj;rcases aUh (aUl hj)with h|rfl
  ·exact Us j h
  ·rw[dx];exact C1
 ·rw[aOr (by omega)];exact h21
 ·rw[aOr (by omega),y7,aOl aky,M9]
def Rt{E:Env}{t s wE:Nat}{ag:Bool}{z:List AV}(hS:ew E t=some (ag,s,wE,z)){H:Hp}{cs:List AV}{n k:Nat}{i:IntKind}(hk:k<=n:=by omega):∃v,HT E H t (.aK cs n) none (some (.int i (k:Int)))=some v/\SV v (cs.take (k*s)) k:=by
 obtain⟨ti,e,ei,h1,h2,h3,h4,h5,_⟩:=kn hS;obtain⟨cD,jA,jS,jB,jZ,dK⟩:=ti;simp only at h2;subst h2 h5;by_cases h0:k=0
 ·subst h0;refine⟨.dw,?_,.inr ⟨rfl,.inr rfl⟩⟩;simp only[HT,h1,gg,h3,IJ (aMd n)]
  simp
 ·refine⟨.aK (cs.take (k*ei.size)) k,?_,.inl rfl⟩;simp only[HT,h1,gg,h3,IJ hk];rw[if_neg (by omega)]
  simp
def ZC{l:pX}(i:Nat):(AR l).take (i*3)=AR (l.take i):=by unfold AR;rw[kU i (yK l),List.map_take]
def XV{l:Ins}(i:Nat):(C5 l).take (i*9)=C5 (l.take i):=by unfold C5;rw[kU i (qG l),List.map_take]
def CG{α:Type}{p:α->Bool}:∀{l:List α} {i k:Nat},lC p l i=some k->i<=k/\k<i+l.length
 |[],_,_,h=>by cases h
 |x::l,i,k,h=>by
  unfold lC at h;split at h
  ·injection h with h;subst h;simp
  ·have:=CG h;simp;omega
def DE{l:pX}{s:List UInt8}(hl:∀p∈l,L5 p.cv):∃a b c,AN l s=.tuple [.agg [a,b,c],.bool (decide (s∈fG l))]/\(cN a=true/\cN b=true/\cN c=true):=by
 by_cases h:s∈fG l
 ·rw[bj h];unfold AN;have ej:KM l s≠none:=by
   intro hn;obtain⟨p,hp,rfl⟩:=aNg.1 h
   have:∀(l:pX) (i:Nat),p∈l->lC (fun q:qu=>decide (q.nm=p.nm)) l i≠none:=by
    intro l;induction l with
    |nil=>intro i h;cases h
    |cons x l ih=>
     intro i hx;unfold lC
     split
     ·simp
     ·rename_i hc;rcases aNe.1 hx with rfl|hx
      ·simp at hc
      ·exact ih _ hx
   exact this l 0 hp hn
  cases hk:KM l s with
  |none=>exact absurd hk ej
  |some k=>
   have:=CG hk
   dsimp only
   have hm:l.getD k pd0∈l:=by rw[aT1,aL6 (by omega)];exact aMg _
   exact⟨_,_,_,rfl,rfl,rfl,(hl _ hm).facts.1⟩
 ·rw[bh h];rw[DF fun j hj e=>h (by rw[<-e];exact aW8 (aMg hj))];exact⟨_,_,_,rfl,rfl,rfl,rfl⟩
def SJ{l:Ins}{s:List UInt8}:∃z:Int,Js l s=.tuple [.int .i64 z,.bool (decide (s∈km l))]:=by
 by_cases h:s∈km l
 ·rw[bj h];unfold Js;have ej:Jx l s≠none:=by
   intro hn;obtain⟨p,hp,rfl⟩:=aNg.1 h
   have:∀(l:Ins) (i:Nat),p∈l->lC (fun q:pE=>decide (q.nm=p.nm)) l i≠none:=by
    intro l;induction l with
    |nil=>intro i h;cases h
    |cons x l ih=>
     intro i hx;unfold lC
     split
     ·simp
     ·rename_i hc;rcases aNe.1 hx with rfl|hx
      ·simp at hc
      ·exact ih _ hx
   exact this l 0 hp hn
  cases hk:Jx l s with
  |none=>exact absurd hk ej
  |some k=>exact⟨_,rfl⟩
 ·rw[bh h];rw[FH fun j hj e=>h (by rw[<-e];exact aW8 (aMg hj))];exact⟨_,rfl⟩
def Kn{pv iv:AV}{l:pX}{m:Ins}{K:sP}(hA:UL pv iv l m)(hK:64<l.length∨xC E K l m):
  aP E 13 [.agg [pv,iv]]=some (.int .i64 (wG K l m)):=by
 suffices hh:∃r,aP E 13 [.agg [pv,iv]]=some r/\r=.int .i64 (wG K l m)by obtain⟨r,h1,rfl⟩:=hh;exact h1
 have LX:=hA.pv.len;have opv:=hA.pv.one;have rpv:=hA.pv.root;have ppv:=hA.pv.pure;have EO:=hA.iv.len;have oiv:=hA.iv.one;have riv:=hA.iv.root;have piv:=hA.iv.pure;refine nY ayg ?_;intro ts hl g0;unfold c13;by_cases h64:64<l.length
 ·have d0:decide ((l.length:Int)>64)=true:=bj;simp only[↓aL,aM,aJ,aa,ae,Tryz.f13,hl,g0,LX,d0];rw[IU h64]
 have K2:xC E K l m:=hK.resolve_left h64;have d0:decide ((l.length:Int)>64)=false:=bh (by omega);simp only[↓aL,aM,aJ,aa,ae,Tryz.f13,hl,g0,LX,d0];refine cC (fun k_ ts H=>∃i:Nat,∃H1:Hp,k_=(l.length-i:Nat)/\ts.length=104/\gt ts 1=.bK 0 0/\gt ts 3=.int .i64 (i:Int)/\H=H1/\(i<=l.length)/\(∀j,j<i->kY K l j=0)/\(H1[0]?=some (.cells .live [pv,iv]))) (l.length) ?_ ?_
 rotate_left
 ·refine⟨0,[.cells .live [pv,iv]],(by first|omega|rfl|simp),(by simp[bc,hl]),?_⟩;simp only[aY,hl,aa,ae]
  iterate 3 refine cI ?_
  refine⟨?_,?_,?_⟩
  ·first|omega|trivial
  ·first|(intro j hj;omega)|trivial
  ·first|rfl|trivial
 clear hl g0 ts;rintro k_ ts H ⟨i,H1,rfl,hl,g1,g3,rfl,hi,hq,h0⟩;refine VS ?_;have tK:=(aLq.1 h0).1;have Fh:cellAt H 0 0=some pv:=by rw[bY,h0];rfl
 have abB:∀{T:Hp},cellAt (H++T) 0 0=some pv:=by intro T;rw[bY,aOr tK,h0];rfl
 by_cases hd:i<l.length
 ·have d1:decide ((i:Int)<(l.length:Int))=true:=bj;have M6:AV.aK (AR l) l.length=pv:=(hA.pv.pos (by omega)).symm;have ci:=eP (i:=i) (n:=l.length) hd;have lP:=wz (z:=(i:Int)+1) (m:=i+1) (by omega) (by have:=hA.nl;omega);have pa:=DK hd;have hgd:l.getD i pd0=l[i]:=by rw[aT1,aL6 hd];rfl
  have G4:=(hA.Uy _ (aMg hd)).facts;have mh:=hA.ps _ (aMg hd);have LU:=K2.sc _ (aMg hd);have dx:kY K l i=if gP (fG (l.take i)) (l[i]).nm≠0 then gP (fG (l.take i)) (l[i]).nm else K.sc l[i]:=by unfold kY;rw[hgd]
  have oC:=fun h=>Wb (m:=m) h64 hd hq h
  obtain⟨sv,FG,Xc⟩:=Rt (E:=E) al3 (H:=H++[.cells .live (AS l[i]),dp]) (cs:=AR l) (n:=l.length) (k:=i) (i:=.i64);rw[ZC]at Xc;have Qs:(l.take i).length=i:=by rw[aPl];omega
  have vP:=Di (E:=E) (pv:=sv) (iv:=.aH) (l:=l.take i) (s:=(l[i]).nm) (by rw[Qs];exact Xc) L5.nil (fun p hp=>hA.Uy p (aRC hp)) (by have:=hA.nl;omega);obtain⟨ra,rb,rc,hpo,ro1,ro2,ro3⟩:=DE (l:=l.take i) (s:=(l[i]).nm) (fun p hp=>hA.Uy p (aRC hp));rw[hpo]at vP;have aAk:=Xc.one;have EH:=Xc.pure;have EG:=Xc.cells;have yn:=Dg (E:=E) mh;unfold gP at dx;generalize pN:K.sc l[i]=cs at dx LU;generalize hpd:l[i]=p at pa G4 mh LU FG dx vP yn;obtain⟨nm,dn,cv,cl⟩:=p;simp only[AS]at pa LU FG
  dsimp only at dx vP yn mh
  have z1:∀{j:Nat},(0==H.length+j)=false:=fun{j}=>beq_eq_false_iff_ne.2 (by omega)
  have z2:∀{j:Nat},(H.length+j==0)=false:=fun{j}=>beq_eq_false_iff_ne.2 (by omega)
  subst M6;by_cases h1:wR nm=true
  rotate_left
  ·rw[if_neg h1,if_pos (by decide)]at dx;have h1':wR nm=false:=by simpa using h1
   rw[h1']at yn;simp only[↓aL,aM,↓aS,aJ,ct,↓reduceIte,aa,ah,ae,ai,hl,g1,g3,LX,Fh,abB,ci,pa,G4,FG,vP,EH,EG,ro1,ro2,ro3,yn,z1,aUi,aL9];rw[oC (by rw[dx];decide),dx]
  rw[h1]at yn;rw[if_pos h1]at dx;by_cases h2:nm∈fG (l.take i)
  ·rw[if_pos h2,if_pos (by decide)]at dx;rw[bj h2]at vP;simp only[↓aL,aM,↓aS,aJ,ct,↓reduceIte,aa,ah,ae,ai,hl,g1,g3,LX,Fh,abB,ci,pa,G4,FG,vP,EH,EG,ro1,ro2,ro3,yn,z1,aUi,aL9];rw[oC (by rw[dx];decide),dx]
  rw[if_neg h2,if_neg (by decide)]at dx;rw[bh h2]at vP;by_cases C1:cs=0
  rotate_left
  ·have b1:(cs !=0)=true:=by simpa using C1
   simp only[↓aL,aM,↓aS,aJ,ct,↓reduceIte,aa,ah,ae,ai,hl,g1,g3,LX,Fh,abB,ci,pa,G4,FG,vP,EH,EG,ro1,ro2,ro3,yn,LU,b1,z1,aUi,aL9];rw[oC (by rw[dx];exact C1),dx]
  have b1:(cs !=0)=false:=by simp[C1]
  simp only[↓aL,aM,↓aS,aJ,ct,↓reduceIte,aa,ah,ae,ai,hl,g1,g3,LX,Fh,abB,ci,lP,pa,G4,FG,vP,EH,EG,ro1,ro2,ro3,yn,LU,b1,z1,aUi,aL9];refine bI ?_;refine⟨_,?_,i+1,(H++[.cells .live [.str nm,.int .i64 dn,cv],.cells .live [ra,rb,rc]]),rfl,(by simp[bc,hl]),?_⟩
  ·first|omega|(simp;omega)
  simp only[aY,hl,aa,ae,g1]
  iterate 3 refine cI ?_
  refine⟨?_,?_,?_⟩
  ·omega
  ·intro j hj;rcases aUh (aUl hj)with h|rfl
   ·exact hq j h
   ·rw[dx];exact C1
  ·rw[aOr tK];exact h0
 have hie:i=l.length:=by omega
 have d1:decide ((i:Int)<(l.length:Int))=false:=bh (by omega);have hqa:∀j,j<l.length->kY K l j=0:=fun j hj=>hq j (by omega)
 have D8:cellAt H 0 1=some iv:=by rw[bY,h0];rfl
 by_cases h12:12<m.length
 ·have d2:decide ((m.length:Int)>12)=true:=bj;simp only[↓aL,aM,aJ,↓reduceIte,aa,ae,hl,g1,g3,LX,EO,d1,Fh,D8,d2];rw[Wa h64 hqa h12]
 have d2:decide ((m.length:Int)>12)=false:=bh (by omega);simp only[↓aL,aM,aJ,↓reduceIte,aa,ae,hl,g1,g3,LX,EO,d1,Fh,D8,d2];refine cC (fun k_ ts H=>∃k:Nat,∃H1:Hp,k_=(m.length-k:Nat)/\ts.length=104/\gt ts 1=.bK 0 0/\gt ts 8=.int .i64 (k:Int)/\H=H1/\(k<=m.length)/\(∀j,j<k->qT K l m j=0)/\(H1[0]?=some (.cells .live [pv,iv]))) (m.length) ?_ ?_
 rotate_left
 ·refine⟨0,H,(by first|omega|rfl|simp),(by simp[bc,hl]),?_⟩;simp only[aY,hl,aa,ae,g1]
  iterate 3 refine cI ?_
  refine⟨?_,?_,?_⟩
  ·first|omega|trivial
  ·first|(intro j hj;omega)|trivial
  ·first|exact h0|trivial
 clear hl g1 g3 ts;rintro k_ ts H ⟨k,H1,rfl,hl,g1,g8,rfl,hk,Us,h0⟩;refine VS ?_;have tK:=(aLq.1 h0).1;have D8:cellAt H 0 1=some iv:=by rw[bY,h0];rfl
 have IP:∀{T:Hp},cellAt (H++T) 0 1=some iv:=by intro T;rw[bY,aOr tK,h0];rfl
 have a00:∀{T:Hp},fE 2 (H++T) 0 0=some (.agg [pv,iv]):=by intro T;rw[dY,aOr tK,h0];rfl
 by_cases hd:k<m.length
 rotate_left
 ·have d1:decide ((k:Int)<(m.length:Int))=false:=bh (by omega);simp only[↓aL,aM,aJ,↓reduceIte,aa,ae,hl,g1,g8,EO,d1,D8];rw[PM h64 hqa h12 (fun j hj=>Us j (by omega))]
 have d1:decide ((k:Int)<(m.length:Int))=true:=bj;have M6:AV.aK (C5 m) m.length=iv:=(hA.iv.pos (by omega)).symm;have ck:=eP (i:=k) (n:=m.length) hd;have qm:=wz (z:=(k:Int)+1) (m:=k+1) (by omega) (by have:=hA.nm;omega);have pa:=zT hd;have hgd:m.getD k xd0=m[k]:=by rw[aT1,aL6 hd];rfl
 have mh:=hA.is _ (aMg hd);have Uq:=K2.mc _ (aMg hd);have dx:qT K l m k=if gP (km (m.take k)) (m[k]).nm≠0 then gP (km (m.take k)) (m[k]).nm else if(m[k]).pt∈fG l then K.mc m[k]else 16:=by unfold qT;rw[hgd]
 have oC:=fun h=>V9 h64 hqa h12 hd Us h
 obtain⟨sv,FG,Xc⟩:=Rt (E:=E) al4 (H:=H++[.cells .live (yt m[k])]) (cs:=C5 m) (n:=m.length) (k:=k) (i:=.i64);rw[XV]at Xc;have Qs:(m.take k).length=k:=by rw[aPl];omega
 have qF:=Ks (E:=E) (pv:=.aH) (iv:=sv) (l:=m.take k) (s:=(m[k]).nm) (by rw[Qs];exact Xc) L5.nil (by have:=hA.nm;omega);obtain⟨zi,hio⟩:=SJ (l:=m.take k) (s:=(m[k]).nm);rw[hio]at qF;have vP:=Di (E:=E) (pv:=pv) (iv:=iv) (l:=l) (s:=(m[k]).pt) hA.pv ⟨_,_,hA.iv⟩ hA.Uy (by have:=hA.nl;omega);obtain⟨ra,rb,rc,hpo,ro1,ro2,ro3⟩:=DE (l:=l) (s:=(m[k]).pt) hA.Uy;rw[hpo]at vP;have aAk:=Xc.one;have EH:=Xc.pure;have EG:=Xc.cells;have yn:=Dg (E:=E) mh.1;unfold gP at dx;generalize pN:K.mc m[k]=cs at dx Uq;generalize hxd:m[k]=x at pa mh Uq dx FG qF vP yn;obtain⟨nm,pt,t0,t1,t2,t3,s0,s1,s2⟩:=x;simp only[yt]at pa Uq FG
 dsimp only at dx qF vP yn
 have z1:∀{j:Nat},(0==H.length+j)=false:=fun{j}=>beq_eq_false_iff_ne.2 (by omega)
 have z2:∀{j:Nat},(H.length+j==0)=false:=fun{j}=>beq_eq_false_iff_ne.2 (by omega)
 rw[<-M6]at D8 IP a00 EO oiv piv riv vP;by_cases h1:wR nm=true
 rotate_left
 ·rw[if_neg h1,if_pos (by decide)]at dx;have h1':wR nm=false:=by simpa using h1
  rw[h1']at yn;simp only[↓aL,aM,↓aS,aJ,ct,↓reduceIte,aa,ah,ae,hl,g1,g8,EO,D8,IP,a00,ck,pa,FG,qF,EH,EG,ppv,vP,ro1,ro2,ro3,yn,aUi,aL9];rw[oC (by rw[dx];decide),dx]
 rw[h1]at yn;rw[if_pos h1]at dx;by_cases h2:nm∈km (m.take k)
 ·rw[if_pos h2,if_pos (by decide)]at dx;rw[bj h2]at qF;simp only[↓aL,aM,↓aS,aJ,ct,↓reduceIte,aa,ah,ae,hl,g1,g8,EO,D8,IP,a00,ck,pa,FG,qF,EH,EG,ppv,vP,ro1,ro2,ro3,yn,aUi,aL9];rw[oC (by rw[dx];decide),dx]
 rw[if_neg h2,if_neg (by decide)]at dx;rw[bh h2]at qF;by_cases h3:pt∈fG l
 rotate_left
 ·rw[if_neg h3]at dx;rw[bh h3]at vP;simp only[↓aL,aM,↓aS,aJ,ct,↓reduceIte,aa,ah,ae,hl,g1,g8,EO,D8,IP,a00,ck,pa,FG,qF,EH,EG,ppv,vP,ro1,ro2,ro3,yn,aUi,aL9];rw[oC (by rw[dx];decide),dx]
 rw[if_pos h3]at dx;rw[bj h3]at vP;by_cases C1:cs=0
 rotate_left
 ·have b1:(cs !=0)=true:=by simpa using C1
  simp only[↓aL,aM,↓aS,aJ,ct,↓reduceIte,aa,ah,ae,hl,g1,g8,EO,D8,IP,a00,ck,pa,FG,qF,EH,EG,ppv,vP,ro1,ro2,ro3,yn,Uq,b1,aUi,aL9];rw[oC (by rw[dx];exact C1),dx]
 have b1:(cs !=0)=false:=by simp[C1]
 simp only[↓aL,aM,↓aS,aJ,ct,↓reduceIte,aa,ah,ae,hl,g1,g8,EO,D8,IP,a00,ck,pa,FG,qF,EH,EG,ppv,vP,ro1,ro2,ro3,yn,Uq,b1,qm,aUi,aL9];refine bI ?_;refine⟨_,?_,k+1,(H++[.cells .live [.str nm,.str pt,.int .i64 t0,.int .i64 t1,.int .i64 t2,.int .i64 t3,.str s0,.str s1,.str s2],.cells .live [ra,rb,rc]]),rfl,(by simp[bc,hl]),?_⟩
 ·first|omega|(simp;omega)
 simp only[aY,hl,aa,ae,g1]
 iterate 3 refine cI ?_
 refine⟨?_,?_,?_⟩
 ·omega
 ·intro j hj;rcases aUh (aUl hj)with h|rfl
  ·exact Us j h
  ·rw[dx];exact C1
 ·rw[aOr tK];exact h0
def OW{rows:List (List AV)}{s j q n:Nat}{r:List AV}(hl:∀r∈rows,r.length=s)(hr:rows[j]?=some r)(hq:q+n<=s):(rows.flatten.drop (j*s+q)).take n=(r.drop q).take n:=by have h1:=jC hl hr;rw[<-h1,List.drop_take,List.drop_drop,List.take_take,Nat.min_eq_left (by omega)]
def aue{l:Ins}{i q n:Nat}(hi:i<l.length)(hq:q+n<=9):eW true n (C5 l) (i*9+q)=some (.agg (((yt l[i]).drop q).take n)):=by
 have h3:=iM (qG l) (j:=i) (by simpa using hi);have h4:i*9+q+n<=(C5 l).length:=by unfold C5;omega
 rw[jd h4];unfold C5;rw[OW (qG l) (by rw[aM4,aL6 hi];rfl) hq]
def aje{cl:List Cl}{i:Nat}(h:i<cl.length):eW false 1 (cl.map (·.1)) i=some cl[i].1:=by rw[gI,aM4,aL6 h];rfl
structure IA(l:pX)(m:Ins):Prop where
 p2:∀p∈l,p.cl.length<=2/\∀c∈p.cl,c.2.length<=8
 i20:∀x∈m,x.s0.length<=20/\x.s1.length<=20/\x.s2.length<=20
 l5:l.length<=5
 m14:m.length<=14
structure kS(pv iv:AV)(l:pX)(m:Ins):Prop where
 pv:SV pv (AR l) l.length
 iv:SV iv (C5 m) m.length
 pt:∀p∈l,BW p
 nl:l.length<=4611686018427387904
 nm:m.length<=4611686018427387904
 nc:∀p∈l,p.cl.length<=4611686018427387904
 ps:∀p∈l,p.nm.length<=4611686018427387904
 is:∀x∈m,(x.nm.length<=4611686018427387904/\x.pt.length<=4611686018427387904)/\x.s0.length<=4611686018427387904/\x.s1.length<=4611686018427387904/\x.s2.length<=4611686018427387904
def Jb{pv iv:AV}{l:pX}{m:Ins}(hA:kS pv iv l m):
  ∃b:Bool,aP E 6 [.agg [pv,iv]]=some (.bool b)/\(b=true->IA l m):=by
 suffices hh:∃r,aP E 6 [.agg [pv,iv]]=some r/\∃b:Bool,r=.bool b/\(b=true->IA l m)by obtain⟨r,h1,b,rfl,h2⟩:=hh;exact⟨b,h1,h2⟩
 have LX:=hA.pv.len;have opv:=hA.pv.one;have rpv:=hA.pv.root;have EO:=hA.iv.len;have oiv:=hA.iv.one;have riv:=hA.iv.root;refine nY fn6 ?_;intro ts hl g0;unfold c6;simp only[↓aL,aM,Tryz.f6,g0];refine cC (fun k_ ts H=>∃i:Nat,k_=(l.length-i:Nat)/\ts.length=85/\gt ts 1=.bK 0 0/\gt ts 3=.int .i64 (i:Int)/\H=[.cells .live [pv,iv]]/\(i<=l.length)/\(∀j (hj:j<l.length),j<i->(l[j]).cl.length<=2/\∀c∈(l[j]).cl,c.2.length<=8)) (l.length) ?_ ?_
 rotate_left
 ·refine⟨0,(by first|omega|rfl|simp),(by simp[bc,hl]),?_⟩;simp only[aY,hl,aa,ae]
  iterate 3 refine cI ?_
  refine⟨?_,?_⟩
  ·first|omega|trivial
  ·first|(intro j _ hj;omega)|trivial
 clear hl g0 ts;rintro k_ ts H ⟨i,rfl,hl,g1,g3,rfl,hi,hq⟩;refine VS ?_;by_cases hd:i<l.length
 ·have d1:decide ((i:Int)<(l.length:Int))=true:=bj;have M6:AV.aK (AR l) l.length=pv:=(hA.pv.pos (by omega)).symm;have ci:=eP (i:=i) (n:=l.length) hd;have lP:=wz (z:=(i:Int)+1) (m:=i+1) (by omega) (by have:=hA.nl;omega);have pc:=KU (q:=2) hd (x:=(l[i]).cv) rfl;have hP:=hA.pt _ (aMg hd);have hnc:=hA.nc _ (aMg hd);have AA:=hP.cv.sv.len;have hrc:=hP.cv.sv.root;have FG:=hP.cv.sv;have hci:=hP.cl;have qo:((l[i]).cl.length<=2/\∀c∈(l[i]).cl,c.2.length<=8)->∀j (hj:j<l.length),j<i+1->(l[j]).cl.length<=2/\∀c∈(l[j]).cl,c.2.length<=8:=by
   intro h j hj xj;rcases aUh (aUl xj)with h2|rfl
   ·exact hq j hj h2
   ·exact h
  have Bg:¬((l[i]).cl.length<=2/\∀c∈(l[i]).cl,c.2.length<=8)->¬IA l m:=fun h hF=>h (hF.p2 _ (aMg hd))
  generalize(l[i]).cv=cv at pc AA hrc FG;generalize(l[i]).cl=cl at AA FG hci qo Bg hnc;subst M6;by_cases h2:2<cl.length
  ·have d2:decide ((cl.length:Int)>2)=true:=bj;simp only[↓aL,aM,aJ,↓reduceIte,aa,ae,hl,g1,g3,ci,pc,AA,d2];exact⟨false,rfl,fun h=>by cases h⟩
  have d2:decide ((cl.length:Int)>2)=false:=bh (by omega);simp only[↓aL,aM,aJ,↓reduceIte,aa,ae,hl,g1,g3,ci,pc,AA,d2];refine cC (fun k_ ts H=>∃k:Nat,k_=(cl.length-k:Nat)/\ts.length=85/\gt ts 1=.bK 0 0/\gt ts 3=.int .i64 (i:Int)/\gt ts 4=.int .i64 (k:Int)/\H=[.cells .live [.aK (AR l) l.length,iv]]/\(k<=cl.length)/\(∀j (hj:j<cl.length),j<k->(cl[j]).2.length<=8)) (cl.length) ?_ ?_
  rotate_left
  ·refine⟨0,(by first|omega|rfl|simp),(by simp[bc,hl]),?_⟩;simp only[aY,hl,aa,ae,g1,g3]
   iterate 4 refine cI ?_
   refine⟨?_,?_⟩
   ·first|omega|trivial
   ·first|(intro j _ hj;omega)|trivial
  clear hl g1 g3 ts;rintro k_ ts H ⟨k,rfl,hl,g1,g3,g4,rfl,hk,hqk⟩;refine VS ?_;by_cases lN:k<cl.length
  rotate_left
  ·have e1:decide ((k:Int)<(cl.length:Int))=false:=bh (by omega);simp only[↓aL,aM,aJ,↓reduceIte,aa,ae,hl,g1,g3,g4,ci,pc,AA,e1,lP];refine bI ?_;refine⟨_,?_,i+1,rfl,(by simp[bc,hl]),?_⟩
   ·first|omega|(simp;omega)
   simp only[aY,hl,aa,ae,g1]
   iterate 3 refine cI ?_
   refine⟨?_,?_⟩
   ·omega
   ·refine qo ⟨by omega,fun c hc=>?_⟩;obtain⟨j,hj,rfl⟩:=aW2 hc;exact hqk j hj (by omega)
  have e1:decide ((k:Int)<(cl.length:Int))=true:=bj;have hcx:AV.aK (cl.map (·.1)) cl.length=cv:=(FG.pos (by omega)).symm;have ck:=eP (i:=k) (n:=cl.length) lN;have qm:=wz (z:=(k:Int)+1) (m:=k+1);have pk:=aje lN;have kg:=hci _ (aMg lN);have lck:=kg.sv.len;have rck:=kg.sv.root;have hkn:∀h:(cl[k]).2.length<=8,∀j (hj:j<cl.length),j<k+1->(cl[j]).2.length<=8:=by
   intro h j hj xj;rcases aUh (aUl xj)with h2|rfl
   ·exact hqk j hj h2
   ·exact h
  have azM:¬(cl[k]).2.length<=8->¬IA l m:=fun h=>Bg fun h2=>h (h2.2 _ (aMg lN))
  generalize(cl[k]).1=c1 at pk lck rck;generalize(cl[k]).2=c2 at lck hkn azM;rw[<-hcx]at pc AA hrc;by_cases h8:8<c2.length
  ·have e2:decide ((c2.length:Int)>8)=true:=bj;simp only[↓aL,aM,aJ,↓reduceIte,aa,ae,hl,g1,g3,g4,ci,pc,AA,ck,pk,lck,e2];exact⟨false,rfl,fun h=>by cases h⟩
  have e2:decide ((c2.length:Int)>8)=false:=bh (by omega);simp only[↓aL,aM,aJ,↓reduceIte,aa,ae,hl,g1,g3,g4,ci,pc,AA,ck,pk,lck,e2,qm];refine bI ?_;refine⟨_,?_,k+1,rfl,(by simp[bc,hl]),?_⟩
  ·first|omega|(simp;omega)
  simp only[aY,hl,aa,ae,g1,g3]
  iterate 4 refine cI ?_
  refine⟨?_,?_⟩
  ·omega
  ·exact hkn (by omega)
 have d1:decide ((i:Int)<(l.length:Int))=false:=bh (by omega);have Ur:∀p∈l,p.cl.length<=2/\∀c∈p.cl,c.2.length<=8:=by intro p hp;obtain⟨j,hj,rfl⟩:=aW2 hp;exact hq j hj (by omega)
 simp only[↓aL,aM,aJ,↓reduceIte,aa,ae,hl,g1,g3,LX,d1];refine cC (fun k_ ts H=>∃k:Nat,∃H1:Hp,k_=(m.length-k:Nat)/\ts.length=85/\gt ts 1=.bK 0 0/\gt ts 5=.int .i64 (k:Int)/\H=H1/\(k<=m.length)/\(∀j (hj:j<m.length),j<k->(m[j]).s0.length<=20/\(m[j]).s1.length<=20/\(m[j]).s2.length<=20)/\(H1[0]?=some (.cells .live [pv,iv]))) (m.length) ?_ ?_
 rotate_left
 ·refine⟨0,[.cells .live [pv,iv]],(by first|omega|rfl|simp),(by simp[bc,hl]),?_⟩;simp only[aY,hl,aa,ae,g1]
  iterate 3 refine cI ?_
  refine⟨?_,?_,?_⟩
  ·first|omega|trivial
  ·first|(intro j _ hj;omega)|trivial
  ·first|rfl|trivial
 clear hl g1 g3 ts;rintro k_ ts H ⟨k,H1,rfl,hl,g1,g5,rfl,hk,Us,h0⟩;refine VS ?_;have tK:=(aLq.1 h0).1;have Fh:cellAt H 0 0=some pv:=by rw[bY,h0];rfl
 have D8:cellAt H 0 1=some iv:=by rw[bY,h0];rfl
 by_cases hd:k<m.length
 rotate_left
 ·have e1:decide ((k:Int)<(m.length:Int))=false:=bh (by omega);have sK:∀x∈m,x.s0.length<=20/\x.s1.length<=20/\x.s2.length<=20:=by intro x hx;obtain⟨j,hj,rfl⟩:=aW2 hx;exact Us j hj (by omega)
  by_cases h5:l.length<=5
  ·have e2:decide ((l.length:Int)<=5)=true:=bj;by_cases h14:m.length<=14
   ·have e3:decide ((m.length:Int)<=14)=true:=bj;simp only[↓aL,aM,aJ,↓reduceIte,aa,ae,hl,g1,g5,Fh,D8,LX,EO,e1,e2,e3];exact⟨true,rfl,fun _=>⟨Ur,sK,h5,h14⟩⟩
   ·have e3:decide ((m.length:Int)<=14)=false:=bh (by omega);simp only[↓aL,aM,aJ,↓reduceIte,aa,ae,hl,g1,g5,Fh,D8,LX,EO,e1,e2,e3];exact⟨false,rfl,fun h=>by cases h⟩
  ·have e2:decide ((l.length:Int)<=5)=false:=bh (by omega);simp only[↓aL,aM,aJ,↓reduceIte,aa,ae,hl,g1,g5,Fh,D8,LX,EO,e1,e2];exact⟨false,rfl,fun h=>by cases h⟩
 have e1:decide ((k:Int)<(m.length:Int))=true:=bj;have M6:AV.aK (C5 m) m.length=iv:=(hA.iv.pos (by omega)).symm;have ck:=eP (i:=k) (n:=m.length) hd;have qm:=wz (z:=(k:Int)+1) (m:=k+1) (by omega) (by have:=hA.nm;omega);have pa:=aue (l:=m) (i:=k) (q:=6) (n:=3) hd (by omega);have hkn:∀h:((m[k]).s0.length<=20/\(m[k]).s1.length<=20/\(m[k]).s2.length<=20),∀j (hj:j<m.length),j<k+1->(m[j]).s0.length<=20/\(m[j]).s1.length<=20/\(m[j]).s2.length<=20:=by
  intro h j hj xj;rcases aUh (aUl xj)with h2|rfl
  ·exact Us j hj h2
  ·exact h
 generalize m[k]=x at pa hkn;obtain⟨nm,pt,t0,t1,t2,t3,s0,s1,s2⟩:=x;simp only[yt,List.drop_succ_cons,List.drop_zero,List.take_succ_cons,List.take_zero]at pa
 dsimp only at hkn
 rw[<-M6]at D8 EO riv oiv;by_cases f0:20<s0.length
 ·have x0:decide ((s0.length:Int)>20)=true:=bj;simp only[↓aL,aM,aJ,ct,↓reduceIte,aa,ah,ae,an,aq,ar,hl,g1,g5,D8,EO,ck,pa,x0,aLU,aL9];exact⟨false,rfl,fun h=>by cases h⟩
 have x0:decide ((s0.length:Int)>20)=false:=bh (by omega);by_cases f1:20<s1.length
 ·have x1:decide ((s1.length:Int)>20)=true:=bj;simp only[↓aL,aM,aJ,ct,↓reduceIte,aa,ah,ae,an,aq,ar,hl,g1,g5,D8,EO,ck,pa,x0,x1,aLU,aL9];exact⟨false,rfl,fun h=>by cases h⟩
 have x1:decide ((s1.length:Int)>20)=false:=bh (by omega);by_cases f2:20<s2.length
 ·have x2:decide ((s2.length:Int)>20)=true:=bj;simp only[↓aL,aM,aJ,ct,↓reduceIte,aa,ah,ae,an,aq,ar,hl,g1,g5,D8,EO,ck,pa,x0,x1,x2,aLU,aL9];exact⟨false,rfl,fun h=>by cases h⟩
 have x2:decide ((s2.length:Int)>20)=false:=bh (by omega);simp only[↓aL,aM,aJ,ct,↓reduceIte,aa,ah,ae,an,aq,ar,hl,g1,g5,D8,EO,ck,pa,x0,x1,x2,qm,aLU,aL9];refine bI ?_;refine⟨_,?_,k+1,(H++[.cells .live [.str s0,.str s1,.str s2]]),rfl,(by simp[bc,hl]),?_⟩
 ·first|omega|(simp;omega)
 simp only[aY,hl,aa,ae,g1]
 iterate 3 refine cI ?_
 refine⟨?_,?_,?_⟩
 ·omega
 ·exact hkn ⟨by omega,by omega,by omega⟩
 ·rw[aOr tK];exact h0
end Go.Proofs.YtmkjgfnicfpjpaaGreatDoor
namespace Go.Proofs.YtmkjgfnicfpjpaaGreatDoor
open Go Go.ChangeShapes Go.WideShapes Go.ChangeAt Go.RowKit Go.ChangeMaps Dv
variable{E:Env}[C:Ctx E]
def alo{α:Type}{l:List α}(hl:l.length=2):∃a b,l=[a,b]:=by
 obtain _|⟨a,l⟩:=l
 ·simp at hl
 obtain _|⟨b,l⟩:=l
 ·simp at hl
 obtain _|⟨x,l⟩:=l
 ·exact⟨a,b,rfl⟩
 ·simp at hl
def Oa{α:Type}{l:List α}(hl:l.length=3):∃a b c,l=[a,b,c]:=by
 obtain _|⟨a,l⟩:=l
 ·simp at hl
 obtain _|⟨b,l⟩:=l
 ·simp at hl
 obtain _|⟨c,l⟩:=l
 ·simp at hl
 obtain _|⟨x,l⟩:=l
 ·exact⟨a,b,c,rfl⟩
 ·simp at hl
def auE{α:Type}{l:List α}(hl:l.length=4):∃a b c d,l=[a,b,c,d]:=by
 obtain _|⟨a,l⟩:=l
 ·simp at hl
 obtain _|⟨b,l⟩:=l
 ·simp at hl
 obtain _|⟨c,l⟩:=l
 ·simp at hl
 obtain _|⟨d,l⟩:=l
 ·simp at hl
 obtain _|⟨x,l⟩:=l
 ·exact⟨a,b,c,d,rfl⟩
 ·simp at hl
def aAL{α:Type}{l:List α}(hl:l.length=7):∃a b c d e f g,l=[a,b,c,d,e,f,g]:=by
 obtain _|⟨a,l⟩:=l
 ·simp at hl
 obtain _|⟨b,l⟩:=l
 ·simp at hl
 obtain _|⟨c,l⟩:=l
 ·simp at hl
 obtain _|⟨d,l⟩:=l
 ·simp at hl
 obtain _|⟨e,l⟩:=l
 ·simp at hl
 obtain _|⟨f,l⟩:=l
 ·simp at hl
 obtain _|⟨g,l⟩:=l
 ·simp at hl
 obtain _|⟨x,l⟩:=l
 ·exact⟨a,b,c,d,e,f,g,rfl⟩
 ·simp at hl
def fieldsOf(t:TypeId):List (TypeId×Nat):=match Tryz.prog.underlying t with
 |some (.struct fs)=>fs.toList.map fun f=>(f.type,f.offset)
 |_=>[]
def tw{t:TypeId}{p:TypeId×Nat}{ps:List (TypeId×Nat)}(h:fieldsOf t=p::ps):∃fs:List Field,Tryz.prog.underlying t=some (.struct fs.toArray)/\fs.map (fun f=>(f.type,f.offset))=p::ps:=by
 unfold fieldsOf at h;split at h
 ·rename_i fs hu;exact⟨fs.toList,by rw[hu],h⟩
 ·cases h
def PB{b o m:Nat}:(⟨b,o,none⟩:Addr).add m=⟨b,o+m,none⟩:=by
 unfold Addr.add
 split
 ·rename_i h;subst h;rfl
 ·rfl
def u3:Tryz.prog.underlying 3=some (.int .i64):=by kernel_rfl
def u4:Tryz.prog.underlying 4=some .bool:=by kernel_rfl
def u9:Tryz.prog.underlying 9=some .string:=by kernel_rfl
def u41:Tryz.prog.underlying 41=some .string:=by kernel_rfl
def u43:Tryz.prog.underlying 43=some (.array 3 41):=by kernel_rfl
def u40:Tryz.prog.underlying 40=some (.array 4 3):=by kernel_rfl
def u89:Tryz.prog.underlying 89=some (.array 3 3):=by kernel_rfl
def u22:Tryz.prog.underlying 22=some (.slice 30):=by kernel_rfl
def u23:Tryz.prog.underlying 23=some (.slice 78):=by kernel_rfl
def u28:Tryz.prog.underlying 28=some (.slice 76):=by kernel_rfl
def u74:Tryz.prog.underlying 74=some (.slice 89):=by kernel_rfl
def cz3:Tryz.prog.cellsOf 3=1:=by kernel_rfl
def cz9:Tryz.prog.cellsOf 9=1:=by kernel_rfl
def ax3:Tryz.prog.cellsOf 41=1:=by kernel_rfl
def aqD:Tryz.prog.cellsOf 43=3:=by kernel_rfl
def aqC:Tryz.prog.cellsOf 40=4:=by kernel_rfl
def ax4:Tryz.prog.cellsOf 45=7:=by kernel_rfl
def aqG:Tryz.prog.cellsOf 89=3:=by kernel_rfl
def aqE:Tryz.prog.cellsOf 76=1:=by kernel_rfl
def aqz:Tryz.prog.cellsOf 30=3:=by kernel_rfl
def aqF:Tryz.prog.cellsOf 78=9:=by kernel_rfl
def ax0:Tryz.prog.cellsOf 25=2:=by kernel_rfl
def ax1:Tryz.prog.cellsOf 28=1:=by kernel_rfl
def ax5:Tryz.prog.cellsOf 74=1:=by kernel_rfl
def axY:Tryz.prog.cellsOf 22=1:=by kernel_rfl
def axZ:Tryz.prog.cellsOf 23=1:=by kernel_rfl
def acQ{t a o:Nat}(h:fieldsOf t=[(a,o)]):∃f0:Field,Tryz.prog.underlying t=some (.struct #[f0])/\(f0.type=a/\f0.offset=o):=by
 obtain⟨fs,hu,hm⟩:=tw h;obtain _|⟨f0,_|⟨f1,l⟩⟩:=fs
 ·simp at hm
 ·simp at hm;exact⟨f0,hu,hm⟩
 ·simp at hm
def GU{t a o b q:Nat}(h:fieldsOf t=[(a,o),(b,q)]):∃f0 f1:Field,Tryz.prog.underlying t=some (.struct #[f0,f1])/\(f0.type=a/\f0.offset=o)/\(f1.type=b/\f1.offset=q):=by
 obtain⟨fs,hu,hm⟩:=tw h;obtain _|⟨f0,_|⟨f1,_|⟨f2,l⟩⟩⟩:=fs
 ·simp at hm
 ·simp at hm
 ·simp at hm;exact⟨f0,f1,hu,hm⟩
 ·simp at hm
def P8{t a o b q c r:Nat}(h:fieldsOf t=[(a,o),(b,q),(c,r)]):∃f0 f1 f2:Field,Tryz.prog.underlying t=some (.struct #[f0,f1,f2])/\(f0.type=a/\f0.offset=o)/\(f1.type=b/\f1.offset=q)/\(f2.type=c/\f2.offset=r):=by
 obtain⟨fs,hu,hm⟩:=tw h;obtain _|⟨f0,_|⟨f1,_|⟨f2,_|⟨f3,l⟩⟩⟩⟩:=fs
 ·simp at hm
 ·simp at hm
 ·simp at hm
 ·simp at hm;exact⟨f0,f1,f2,hu,hm⟩
 ·simp at hm
def Q1{α:Type}{Q:Nat->α->Prop}:∀{n:Nat},(∀j,j<n->∃d,Q j d)->∃l:List α,l.length=n/\∀(j:Nat) (d:α),l[j]?=some d->Q j d
 |0,_=>⟨[],rfl,fun j d h=>by simp at h⟩
 |n+1,h=>by
  obtain⟨l,hl,hq⟩:=Q1 (n:=n) fun j hj=>h j (by omega)
  obtain⟨d,hd⟩:=h n (by omega);refine⟨l++[d],by simp[hl],fun j e he=>?_⟩;rw[List.getElem?_append]at he;by_cases hj:j<l.length
  ·rw[if_pos hj]at he;exact hq j e he
  ·rw[if_neg hj]at he;have h1:=(aLq.1 he).1;simp at h1
   have:j=n:=by omega
   subst this;rw[hl,Nat.sub_self]at he;simp at he;subst he;exact hd
section
variable{H:Type}{enc:TypeId×Value->H}{W:World}{base:Nat}{sp:Nat->Bool}{held:Bool}{fuel:Nat}
def xK(t:TypeId)(d:DataW H):Prop:=(d.weights Tryz.prog t).all (·<=reachBytes)=true
def avW{t:TypeId}:∀{l:List (DataW H)},(DataW.weightsAll Tryz.prog t l).all (·<=reachBytes)=true->∀d∈l,xK t d
 |[],_,_,h=>absurd h aV0
 |e::l,h,d,hd=>by
  simp only[DataW.weightsAll,aW7,aM6]at h;rcases aNe.1 hd with rfl|hd
  ·exact h.1
  ·exact avW h.2 d hd
def vo{α:Type}{row:α->List AV}{P:α->Prop}{tS tE k:Nat}(hu:Tryz.prog.underlying tS=some (.slice tE))(hc:Tryz.prog.cellsOf tE=k)(hk:0<k)(hby:0<Tryz.prog.bytesOf tE)
  (sd:∀(m:Nat) (cs:List Value) (x:DataW H×List MemPlace),DataW.trod enc Tryz.prog W base sp held m tE cs=some x->xK tE x.1->∃d:α,P d/\(row d).length=k/\Rs cg W (fun _=>False) (row d) cs)
  {v:Value} {x:DataW H×List MemPlace} (h:DataW.trod enc Tryz.prog W base sp held fuel tS [v]=some x) (hw:xK tS x.1):
  ∃(l:List α) (lv:AV),SV lv (l.map row).flatten l.length/\R cg W (fun _=>False) lv v/\(∀d∈l,P d)/\l.length<=4611686018427387904:=by
 rcases DataW.trod_slice hu h with⟨e,-⟩|⟨a,len,cap,elems,rest,n,-,e,rfl,-,sy,Xx,aG5,sA,-⟩
 ·simp only[List.cons.injEq,and_true]at e;subst e;exact⟨[],.aH,.inr ⟨rfl,.inl rfl⟩,by simp[R],fun _ h=>absurd h aV0,aMd _⟩
 ·simp only[List.cons.injEq,and_true]at e;subst e;by_cases h0:len=0
  ·subst h0;exact⟨[],.dw,.inr ⟨rfl,.inr rfl⟩,by simp[R],fun _ h=>absurd h aV0,aMd _⟩
  have hw':((DataW.weights Tryz.prog tS (.slice (elems.map (·.1)) (rest.map (·.1)))).all (·<=reachBytes))=true:=hw;simp only[DataW.weights,hu,List.all_cons,aW7,aM6,decide_eq_true_eq,List.length_map]at hw';obtain⟨w1,w2,-⟩:=hw';have hlw:len<=4611686018427387904:=by
   have h1:(elems.length+rest.length)*1<=(elems.length+rest.length)*Tryz.prog.bytesOf tE:=Nat.mul_le_mul_left _ hby
   have:reachBytes<=4611686018427387904:=by unfold reachBytes;omega
   omega
  have pf:∀j,j<len->∃d:α,P d/\(row d).length=k/\∀(q:Nat) (y:AV),(row d)[q]?=some y->∃u,W.cell? ((a.add (j*k)).add q)=some u/\R cg W (fun _=>False) y u:=by
   intro j hj;have hg:=sA j hj;rw[hc,aL6 (by omega),Option.bind_eq_some_iff]at hg;obtain⟨cs,h1,h2⟩:=hg;obtain⟨d,p1,p2,p3⟩:=sd _ _ _ h2 (avW w2 _ (aNg.2 ⟨_,aMg _,rfl⟩));refine⟨d,p1,p2,fun q y hy=>?_⟩;obtain⟨u,g1,g2⟩:=p3.get q y hy;have hq:q<k:=by have:=(aLq.1 hy).1;omega
   have h3:=(World.cells?_some h1).2.2 q (by omega);exact⟨u,by rw[h3,g1],g2⟩
  have hsn:a.spot=none:=by
   obtain⟨d,p1,p2,p3⟩:=pf 0 (by omega);obtain⟨u,g,-⟩:=p3 0 _ (aL6 (by omega));rw[show(a.add (0*k)).add 0=a by rw[Nat.zero_mul];rfl]at g;unfold World.cell? at g;split at g
   case h_2=>cases g
   cases hs:a.spot with
   |none=>rfl
   |some s=>rw[hs]at g;cases g
  obtain⟨bk,of,spt⟩:=a;simp only at hsn;subst hsn;obtain⟨l,hl,hq⟩:=Q1 pf;have hlen:∀r∈l.map row,r.length=k:=by intro r hr;obtain⟨d,hd,rfl⟩:=aNg.1 hr;obtain⟨j,hj⟩:=aL8 hd;exact(hq j d hj).2.1
  obtain⟨c,e,f,hh⟩:∃c e f,W.heap[bk]?=some (.cells c e f):=by
   obtain⟨d,p1,p2,p3⟩:=pf 0 (by omega);obtain⟨u,g,-⟩:=p3 0 _ (aL6 (by omega));rw[PB,PB]at g;unfold World.cell? at g;split at g
   case h_2=>cases g
   rename_i c e f hh;exact⟨c,e,f,hh⟩
  refine⟨l,.aK (l.map row).flatten l.length,.inl rfl,?_,fun d hd=>?_,by omega⟩
  ·simp only[R];refine⟨bk,of,cap,c,e,f,by rw[hl],by omega,hh,fun h=>h,iH.gR fun i y hy=>?_⟩;have MV:(l.map row).flatten.length=l.length*k:=by have:=jL hlen;simpa using this
   have hi:i<l.length*k:=by have:=(aLq.1 hy).1;omega
   have tJ:i/k<l.length:=Nat.div_lt_of_lt_mul (by rw[Nat.mul_comm];exact hi);have hiq:i%k<k:=Nat.mod_lt _ hk;obtain⟨p1,p2,p3⟩:=hq (i/k) _ (aL6 tJ);obtain⟨u,g1,g2⟩:=p3 (i%k) _ (aL6 (by omega));have he:i/k*k+i%k=i:=by rw[Nat.mul_comm];exact Nat.div_add_mod i k
   have h4:=cell_of_row hlen (j:=i/k) (q:=i%k) (by rw[aM4,aL6 tJ];rfl) (aL6 (by omega));rw[he]at h4;rw[hy]at h4;obtain rfl:=Option.some.inj h4;refine⟨u,?_,g2⟩;rw[PB,PB,aLU,he]at g1;unfold World.cell? at g1;have hh':W.heap[(⟨bk,of+i,none⟩:Addr).block]?=some (.cells c e f):=hh;simp only[hh']at g1;simpa using g1
  ·obtain⟨j,hj⟩:=aL8 hd;exact(hq j d hj).1
def axv{n:Nat}(h:n<=reachBytes):n<=4611686018427387904:=by unfold reachBytes at h;omega
def Gu{t:TypeId}{l:List UInt8}(h:xK (H:=H) t (.lit (.string l))):l.length<=4611686018427387904:=by unfold xK at h;simp only[DataW.weights,List.all_cons,aRr,aRf,decide_eq_true_eq]at h;exact axv h
def aB1{t:TypeId}{f0:Field}(hu:Tryz.prog.underlying t=some (.struct #[f0])){a:DataW H}(h:xK t (.agg [a])):xK f0.type a:=by
 unfold xK at h⊢;simpa[DataW.weights,DataW.weightsEach,hu]using h
def avX{t:TypeId}{f0 f1:Field}(hu:Tryz.prog.underlying t=some (.struct #[f0,f1])){a b:DataW H}(h:xK t (.agg [a,b])):xK f0.type a/\xK f1.type b:=by unfold xK at h⊢;simp only[DataW.weights,DataW.weightsEach,hu,List.map_cons,List.map_nil,aW7,aRr,aRf,aM6]at h;exact h
def avY{t:TypeId}{f0 f1 f2:Field}(hu:Tryz.prog.underlying t=some (.struct #[f0,f1,f2])){a b c:DataW H}(h:xK t (.agg [a,b,c])):xK f0.type a/\xK f1.type b/\xK f2.type c:=by unfold xK at h⊢;simp only[DataW.weights,DataW.weightsEach,hu,List.map_cons,List.map_nil,aW7,aRr,aRf,aM6]at h;exact h
def aB0{t e:TypeId}(hu:Tryz.prog.underlying t=some (.array 3 e)){a b c:DataW H}(h:xK t (.agg [a,b,c])):xK e a/\xK e b/\xK e c:=by unfold xK at h⊢;simp only[DataW.weights,DataW.weightsAll,hu,aW7,aRr,aRf,aM6]at h;exact h
def ZH{cs:List Value}{x:DataW H×List MemPlace}(h:DataW.trod enc Tryz.prog W base sp held fuel 89 cs=some x):∃d:I3,(pZ d).length=3/\Rs cg W (fun _=>False) (pZ d) cs:=by obtain⟨xs,m,rfl,rfl,hlen,hn,sd⟩:=DataW.trod_array u89 h;rw[cz3]at sd;rw[aqG]at hlen;have e0:=sd 0 (by omega);have e1:=sd 1 (by omega);have e2:=sd 2 (by omega);obtain⟨y0,y1,y2,rfl⟩:∃y0 y1 y2,xs=[y0,y1,y2]:=Oa hn;obtain⟨d0,d1,d2,rfl⟩:∃y0 y1 y2,cs=[y0,y1,y2]:=Oa hlen;obtain⟨s0,k0,r0,-⟩:=DataW.trod_int u3 e0;obtain⟨s1,k1,r1,-⟩:=DataW.trod_int u3 e1;obtain⟨s2,k2,r2,-⟩:=DataW.trod_int u3 e2;simp at k0 k1 k2;subst k0 k1 k2;exact⟨⟨s0,s1,s2⟩,rfl,by simp[pZ,Rs,R]⟩
def ZG{cs:List Value}{x:DataW H×List MemPlace}(h:DataW.trod enc Tryz.prog W base sp held fuel 43 cs=some x)(hw:xK 43 x.1):∃s0 s1 s2:List UInt8,cs=[.string ⟨s0.toArray⟩,.string ⟨s1.toArray⟩,.string ⟨s2.toArray⟩]/\s0.length<=4611686018427387904/\s1.length<=4611686018427387904/\s2.length<=4611686018427387904:=by obtain⟨xs,m,rfl,rfl,hlen,hn,sd⟩:=DataW.trod_array u43 h;rw[ax3]at sd;rw[aqD]at hlen;have e0:=sd 0 (by omega);have e1:=sd 1 (by omega);have e2:=sd 2 (by omega);obtain⟨y0,y1,y2,rfl⟩:∃y0 y1 y2,xs=[y0,y1,y2]:=Oa hn;obtain⟨d0,d1,d2,rfl⟩:∃y0 y1 y2,cs=[y0,y1,y2]:=Oa hlen;obtain⟨s0,k0,r0,-⟩:=DataW.trod_string u41 e0;obtain⟨s1,k1,r1,-⟩:=DataW.trod_string u41 e1;obtain⟨s2,k2,r2,-⟩:=DataW.trod_string u41 e2;simp at k0 k1 k2;subst k0 k1 k2 r0 r1 r2;obtain⟨w0,w1,w2⟩:=aB0 u43 hw;exact⟨s0.data.toList,s1.data.toList,s2.data.toList,rfl,Gu w0,Gu w1,Gu w2⟩
def TB{cs:List Value}{x:DataW H×List MemPlace}(h:DataW.trod enc Tryz.prog W base sp held fuel 40 cs=some x):∃s0 s1 s2 s3:Int,cs=[.int .i64 s0,.int .i64 s1,.int .i64 s2,.int .i64 s3]:=by obtain⟨xs,m,rfl,rfl,hlen,hn,sd⟩:=DataW.trod_array u40 h;rw[cz3]at sd;rw[aqC]at hlen;have e0:=sd 0 (by omega);have e1:=sd 1 (by omega);have e2:=sd 2 (by omega);have e3:=sd 3 (by omega);obtain⟨y0,y1,y2,y3,rfl⟩:∃y0 y1 y2 y3,xs=[y0,y1,y2,y3]:=auE hn;obtain⟨d0,d1,d2,d3,rfl⟩:∃y0 y1 y2 y3,cs=[y0,y1,y2,y3]:=auE hlen;obtain⟨s0,k0,r0,-⟩:=DataW.trod_int u3 e0;obtain⟨s1,k1,r1,-⟩:=DataW.trod_int u3 e1;obtain⟨s2,k2,r2,-⟩:=DataW.trod_int u3 e2;obtain⟨s3,k3,r3,-⟩:=DataW.trod_int u3 e3;simp at k0 k1 k2 k3;subst k0 k1 k2 k3;exact⟨s0,s1,s2,s3,rfl⟩
def Tz{cs:List Value}{x:DataW H×List MemPlace}(h:DataW.trod enc Tryz.prog W base sp held fuel 76 cs=some x)(hw:xK 76 x.1):∃c:Cl,Ij c.1 c.2/\([c.1]:List AV).length=1/\Rs cg W (fun _=>False) [c.1] cs:=by
 obtain⟨f0,hu,⟨t0,o0⟩⟩:=acQ (show fieldsOf 76=[(74,0)]by kernel_rfl);obtain⟨xs,m,rfl,rfl,hlen,hn,sd⟩:=DataW.trod_struct hu h;rw[aqE]at hlen;have e0:=sd 0 f0 rfl;rw[t0,o0,ax5]at e0;obtain _|⟨y0,_|⟨y1,l⟩⟩:=xs
 ·simp at hn
 ·obtain _|⟨d0,_|⟨d1,l⟩⟩:=cs
  ·simp at hlen
  ·simp at e0;have w0:=aB1 hu hw;rw[t0]at w0;obtain⟨l,lv,h1,h2,-,h3⟩:=vo (row:=pZ) (P:=fun _=>True) u74 aqG (by omega) (by rw[show Tryz.prog.bytesOf 89=24 by kernel_rfl];omega) (fun m cs x hx _=>by
    obtain⟨d,g1,g2⟩:=ZH hx;exact⟨d,trivial,g1,g2⟩) e0 w0
   refine⟨(lv,l),?_,rfl,by simp[Rs,h2]⟩;rcases h1 with h1|⟨h1,h4⟩
   ·exact .inl h1
   ·exact .inr ⟨aWl.1 h1,h4⟩
  ·simp at hlen
 ·simp at hn
def Jd{α:Type}(f:α->AV):∀l:List α,(l.map fun c=>[f c]).flatten=l.map f
 |[]=>rfl
 |a::l=>by simp[Jd f l]
def TC{cs:List Value}{x:DataW H×List MemPlace}(h:DataW.trod enc Tryz.prog W base sp held fuel 30 cs=some x)(hw:xK 30 x.1):
  ∃p:qu,(BW p/\p.cl.length<=4611686018427387904/\p.nm.length<=4611686018427387904)/\(AS p).length=3/\Rs cg W (fun _=>False) (AS p) cs:=by
 obtain⟨f0,f1,f2,hu,⟨t0,o0⟩,⟨t1,o1⟩,⟨t2,o2⟩⟩:=P8 (show fieldsOf 30=[(9,0),(3,1),(28,2)]by kernel_rfl);obtain⟨xs,m,rfl,rfl,hlen,hn,sd⟩:=DataW.trod_struct hu h;rw[aqz]at hlen;have e0:=sd 0 f0 rfl;have e1:=sd 1 f1 rfl;have e2:=sd 2 f2 rfl;rw[t0,o0,cz9]at e0;rw[t1,o1,cz3]at e1;rw[t2,o2,ax1]at e2;obtain⟨y0,y1,y2,rfl⟩:∃y0 y1 y2,xs=[y0,y1,y2]:=Oa hn;obtain⟨d0,d1,d2,rfl⟩:∃y0 y1 y2,cs=[y0,y1,y2]:=Oa hlen;obtain⟨s0,k0,r0,-⟩:=DataW.trod_string u9 e0;obtain⟨s1,k1,r1,-⟩:=DataW.trod_int u3 e1;simp at k0 k1 e2;obtain⟨w0,w1,w2⟩:=avY hu hw;subst k0 k1 r0 r1;rw[t2]at w2;obtain⟨l,lv,h1,h2,h3,h4⟩:=vo (row:=fun c:Cl=>[c.1]) (P:=fun c=>Ij c.1 c.2) u28 aqE (by omega) (by rw[show Tryz.prog.bytesOf 76=24 by kernel_rfl];omega) (fun m cs x hx Iv=>Tz hx Iv) e2 w2;rw[Jd]at h1;refine⟨⟨s0.data.toList,s1,lv,l⟩,⟨⟨?_,h3⟩,h4,Gu w0⟩,rfl,by simp only[AS,Rs];exact⟨_,_,rfl,by simp[R],_,_,rfl,by simp[R],_,_,rfl,h2,rfl⟩⟩;rcases h1 with h1|⟨h1,h5⟩
 ·exact .inl h1
 ·exact .inr ⟨aWl.1 h1,h5⟩
def TA{cs:List Value}{x:DataW H×List MemPlace}(h:DataW.trod enc Tryz.prog W base sp held fuel 78 cs=some x)(hw:xK 78 x.1):
  ∃p:pE,((p.nm.length<=4611686018427387904/\p.pt.length<=4611686018427387904)/\p.s0.length<=4611686018427387904/\p.s1.length<=4611686018427387904/\p.s2.length<=4611686018427387904)/\(yt p).length=9/\Rs cg W (fun _=>False) (yt p) cs:=by
 obtain⟨f0,f1,f2,hu,⟨t0,o0⟩,⟨t1,o1⟩,⟨t2,o2⟩⟩:=P8 (show fieldsOf 78=[(9,0),(9,1),(45,2)]by kernel_rfl);obtain⟨xs,m,rfl,rfl,hlen,hn,sd⟩:=DataW.trod_struct hu h;rw[aqF]at hlen;have e0:=sd 0 f0 rfl;have e1:=sd 1 f1 rfl;have e2:=sd 2 f2 rfl;rw[t0,o0,cz9]at e0;rw[t1,o1,cz9]at e1;rw[t2,o2,ax4]at e2;obtain⟨y0,y1,y2,rfl⟩:∃y0 y1 y2,xs=[y0,y1,y2]:=Oa hn;obtain⟨d0,cs,rfl⟩:∃y l,cs=y::l:=by cases cs<;>simp_all
 obtain⟨d1,cs,rfl⟩:∃y l,cs=y::l:=by cases cs<;>simp_all
 obtain⟨d2,d3,d4,d5,d6,d7,d8,rfl⟩:∃y0 y1 y2 y3 y4 y5 y6,cs=[y0,y1,y2,y3,y4,y5,y6]:=aAL (by simpa using hlen);obtain⟨s0,k0,r0,-⟩:=DataW.trod_string u9 e0;obtain⟨s1,k1,r1,-⟩:=DataW.trod_string u9 e1;simp at k0 k1 e2;obtain⟨w0,w1,w2⟩:=avY hu hw;subst k0 k1 r0 r1;rw[t2]at w2;obtain⟨g0,g1,hu2,⟨q0,v0⟩,⟨q1,v1⟩⟩:=GU (show fieldsOf 45=[(40,0),(43,4)]by kernel_rfl);obtain⟨zs,m2,Eb,hy2,Xs,zO,asX⟩:=DataW.trod_struct hu2 e2;have a0:=asX 0 g0 rfl;have a1:=asX 1 g1 rfl;rw[q0,v0,aqC]at a0;rw[q1,v1,aqD]at a1;obtain⟨z0,z1,rfl⟩:∃y0 y1,zs=[y0,y1]:=alo zO;simp at a0 a1;rw[hy2]at w2;obtain⟨w3,w4⟩:=avX hu2 w2;rw[q1]at w4;obtain⟨i0,i1,i2,i3,k3⟩:=TB a0;obtain⟨b0,b1,b2,k4,n0,n1,n2⟩:=ZG a1 w4;simp at k3 k4;obtain⟨rfl,rfl,rfl,rfl⟩:=k3;obtain⟨rfl,rfl,rfl⟩:=k4;exact⟨⟨s0.data.toList,s1.data.toList,i0,i1,i2,i3,b0,b1,b2⟩,⟨⟨Gu w0,Gu w1⟩,n0,n1,n2⟩,rfl,by simp[yt,Rs,R]⟩
def KZ{cs:List Value}{x:DataW H×List MemPlace}(h:DataW.trod enc Tryz.prog W base sp held fuel 25 cs=some x)(hw:xK 25 x.1):
  ∃(pv iv:AV) (l:pX) (m:Ins),kS pv iv l m/\Rs cg W (fun _=>False) [pv,iv] cs:=by
 obtain⟨f0,f1,hu,⟨t0,o0⟩,⟨t1,o1⟩⟩:=GU (show fieldsOf 25=[(22,0),(23,1)]by kernel_rfl);obtain⟨xs,m,rfl,rfl,hlen,hn,sd⟩:=DataW.trod_struct hu h;rw[ax0]at hlen;have e0:=sd 0 f0 rfl;have e1:=sd 1 f1 rfl;rw[t0,o0,axY]at e0;rw[t1,o1,axZ]at e1;obtain⟨y0,y1,rfl⟩:∃y0 y1,xs=[y0,y1]:=alo hn;obtain⟨d0,d1,rfl⟩:∃y0 y1,cs=[y0,y1]:=alo hlen;simp at e0 e1;obtain⟨w0,w1⟩:=avX hu hw;rw[t0]at w0;rw[t1]at w1;obtain⟨l,pv,a1,a2,a3,a4⟩:=vo (row:=AS) u22 aqz (by omega) (by rw[show Tryz.prog.bytesOf 30=48 by kernel_rfl];omega) (fun m cs x hx Iv=>TC hx Iv) e0 w0;obtain⟨k,iv,b1,b2,b3,b4⟩:=vo (row:=yt) u23 aqF (by omega) (by rw[show Tryz.prog.bytesOf 78=112 by kernel_rfl];omega) (fun m cs x hx Iv=>TA hx Iv) e1 w1;exact⟨pv,iv,l,k,⟨a1,b1,fun p hp=>(a3 p hp).1,a4,b4,fun p hp=>(a3 p hp).2.1,fun p hp=>(a3 p hp).2.2,b3⟩,by simp only[Rs];exact⟨_,_,rfl,a2,_,_,rfl,b2,rfl⟩⟩
end
end Go.Proofs.YtmkjgfnicfpjpaaGreatDoor
