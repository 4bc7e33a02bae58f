/- Lemmas for AssemblyRefuses; no condition. -/
import Derived.Test.YtmkjgfnicfpjpaaGreatDoorRar
set_option linter.all false
set_option maxHeartbeats 100000000
set_option maxRecDepth 100000
noncomputable section
open List renaming getElem?_append_left->aOr,range->aOR,getElem?_eq_some_iff->aLq,not_mem_nil->aV0,getD_eq_getElem?_getD->aT1,mem_cons->aNe,mem_cons_of_mem->aOk,length_append->aL9,getElem?_eq_getElem->aL6,prefix_append->aV1,mem_cons_self->aOw,length_cons->aL4
open Option renaming map_some->aMi
open Nat renaming reduceLT->aa,reduceEqDiff->ae,reduceAdd->ah
open Int renaming reduceLE->an,reduceToNat->ar,reduceNeg->aB,reduceBNe->aE
namespace Go.Proofs.YtmkjgfnicfpjpaaGreatDoor
open Go Dv Dv.dk
variable{E:Env}[C:Ctx E]
def yD{m:AV}{l:List Nat}(h:eB m l):Flat m:=by
 rcases h.2 with rfl|⟨-,rfl|rfl⟩<;>exact fun _ _=>rfl
def yO{n m n' m'}(q:Rat)(h:eu (.agg [.bool n,m,.bool n',m']) q):Flat m/\Flat m':=by obtain⟨na,ma,nb,mb,l,l',e,-,h1,h2,-⟩:=db h;simp only[AV.agg.injEq,List.cons.injEq,AV.bool.injEq,and_true]at e;obtain⟨-,rfl,-,rfl⟩:=e;exact⟨yD h1,yD h2⟩
def WT{b:Bool}:Flat (.bool b):=fun _ _=>rfl
def flat_agg{H:Hp}{n:Nat}{cs:List AV}(h:∀v∈cs,Flat v):fz H (n+2) (.agg cs)=some (.agg cs,[]):=by unfold fz;simp only;rw[qJ h];simp only[aMi,yF,nQ]
def ajO{H:Hp}{n b f:Nat}{cs:List AV}{st:qW}(h:H[b]?=some (.cells st cs))(hd:st≠ .dead)(hf:∀v∈cs,Flat v):fz H (n+3) (.func f [] [.bK b 0])=some (.func f [] [.cS cs 0],[b]):=by
 have h1:fz H (n+2) (.bK b 0)=some (.cS cs 0,[b]):=by unfold fz;simp only[h];rw[if_neg hd,qJ hf];simp only[aMi,yF,nQ]
 unfold fz;simp only;unfold e9;rw[h1];unfold e9;rfl
def acZ{H:Hp}{b f:Nat}{l1 l2 cs:List AV}{st:qW}(f1:∀v∈l1,Flat v)(f2:∀v∈l2,Flat v)(h:H[b]?=some (.cells st cs))(hd:st≠ .dead)(hf:∀v∈cs,Flat v):sI false H [.agg l1,.agg l2,.func f [] [.bK b 0]]=some ([.agg l1,.agg l2,.func f [] [.cS cs 0]],[b]):=by rw[xF];unfold bX;rw[show aV [AV.agg l1,.agg l2,.func f [] [.bK b 0]]=false by simp[aV,aU]];simp only[Bool.false_eq_true,if_false];unfold e9;rw[flat_agg f1];unfold e9;rw[flat_agg f2];unfold e9;rw[ajO h hd hf];unfold e9;rfl
def yV{n0 m0 n1 m1 n2 m2 n3 m3 n4 m4 n5 m5}{a:V3}(h:kD (.agg [.bool n0,m0,.bool n1,m1,.bool n2,m2,.bool n3,m3,.bool n4,m4,.bool n5,m5]) a):∀v∈[.bool n0,m0,.bool n1,m1,.bool n2,m2,.bool n3,m3,.bool n4,m4,.bool n5,m5],Flat v:=by
 obtain⟨p0,q0,p1,q1,p2,q2,p3,q3,p4,q4,p5,q5,e,h1,h2,h3⟩:=h;simp only[AV.agg.injEq,List.cons.injEq,AV.bool.injEq,and_true]at e;obtain⟨rfl,rfl,rfl,rfl,rfl,rfl,rfl,rfl,rfl,rfl,rfl,rfl⟩:=e;have A:=yO _ h1;have B:=yO _ h2;have D:=yO _ h3;intro v hv;simp only[aNe,aV0,or_false]at hv;rcases hv with rfl|rfl|rfl|rfl|rfl|rfl|rfl|rfl|rfl|rfl|rfl|rfl<;>first|exact WT|exact A.1|exact A.2|exact B.1|exact B.2|exact D.1|exact D.2
def Tx{n0 m0 n1 m1}{q:Rat}(h:eu (.agg [.bool n0,m0,.bool n1,m1]) q):∀v∈[.bool n0,m0,.bool n1,m1],Flat v:=by
 have A:=yO _ h;intro v hv;simp only[aNe,aV0,or_false]at hv;rcases hv with rfl|rfl|rfl|rfl<;>first|exact WT|exact A.1|exact A.2
def um{v w:AV}{k0 k1 k2 k3:AV}{q p:Rat}(h:eu v q)(hk:eu (.agg [k0,k1,k2,k3]) p){k l:Nat}(bq:Bq k q)(bp:Bq l p)(hb:k+l<=100000000000):∃r,aP E 77 [v,w,.cS [k0,k1,k2,k3] 0]=some r/\eu r (p*q):=by obtain⟨r,hr,ir⟩:=oc (E:=E) hk h bp bq;obtain⟨n0,m0,n1,m1,_,_,rfl,-,-,-,-⟩:=db h;obtain⟨i0,j0,i1,j1,_,_,e,-,-,-,-⟩:=db hk;simp only[AV.agg.injEq,List.cons.injEq,and_true]at e;obtain⟨rfl,rfl,rfl,rfl⟩:=e;obtain⟨s0,t0,s1,t1,_,_,rfl,-,-,-,-⟩:=db ir;have A:=cJ _ h;have B:=cJ _ hk;have D:=cJ _ ir;have hp:eW true 4 [AV.bool i0,k1,.bool i1,k3] 0=some (.agg [.bool i0,k1,.bool i1,k3]):=rfl;refine gw3 ayS ?_;intro ts hl g0 g1 g2;unfold c77;simp only[↓aL,aM,↓aS,aJ,↓reduceIte,aa,ah,ae,Tryz.f77,hl,g0,g1,g2,hp,hr,A,B,D];exact ir
def AZ{v w:AV}{a:V3}{p:Rat}(h:kD v a)(hk:eu w p){k l:Nat}(ba:BV k a)(bp:Bq l p)(hb:k+l<=100000000000:=by omega):∃r,aP E 49 [v,w]=some r/\kD r (D4 p a):=by
 obtain⟨n0,m0,n1,m1,n2,m2,n3,m3,n4,m4,n5,m5,rfl,-,-,-,P,O⟩:=dC h;obtain⟨i0,j0,i1,j1,_,_,rfl,-,-,-,-⟩:=db hk;have B:=cJ _ hk;obtain⟨r,hr,ir⟩:=uD (E:=E) (f:=77) (fc:=[.cS [.bool i0,j0,.bool i1,j1] 0]) (bO C) (by simp[aV,aU]) h h (c:=D4 p a) (fun x y hx hy=>um (E:=E) hx hk ba.1 bp hb) (fun x y hx hy=>um (E:=E) hx hk ba.2.1 bp hb) (fun x y hx hy=>um (E:=E) hx hk ba.2.2 bp hb);obtain⟨s0,t0,s1,t1,s2,t2,s3,t3,s4,t4,s5,t5,rfl,-,-,-,P2,O2⟩:=dC ir;have gH:=acZ (f:=77) (b:=1) (H:=[.cells .live [.bool n0,m0,.bool n1,m1,.bool n2,m2,.bool n3,m3,.bool n4,m4,.bool n5,m5],.cells .live [.bool i0,j0,.bool i1,j1],.cells .live [.bool false,.aH,.bool false,.aH,.bool false,.aH,.bool false,.aH,.bool false,.aH,.bool false,.aH]]) (yV h) (yV h) (st:=.live) rfl (by decide) (Tx hk);refine oA ayJ ?_;intro ts hl g0 g1;unfold c49;cases tO:bQ (.agg [.bool s0,t0,.bool s1,t1,.bool s2,t2,.bool s3,t3,.bool s4,t4,.bool s5,t5])with
 |true=>
  simp only[↓aL,aM,↓aS,aJ,↓reduceIte,aa,ah,ae,Tryz.f49,hl,g0,g1,P,P2,O2,gH,hr,tO];exact ir
 |false=>
  simp only[↓aL,aM,↓aS,aJ,↓reduceIte,aa,ah,ae,Tryz.f49,hl,g0,g1,P,P2,O2,gH,hr,tO];exact ir
def yS{E:Env}{t len n:Nat}{ag:Bool}(h:gO E t=some (len,ag,n)){H:Hp}{b:Nat}{st:qW}{cs:List AV}(hb:H[b]?=some (.cells st cs))(hd:st≠ .dead)(hl:cs.length=len*n)(h0:0<len:=by decide)(h1:0<n:=by decide):HT E H t (.bK b 0) none none=some (.aI b 0 len n len):=by
 unfold gO at h;cases hi:E.ty t with
 |none=>rw[hi]at h;cases h
 |some i=>
  rw[hi]at h;obtain⟨cD,jA,jS,jB,jZ,dK⟩:=i;cases cD<;>first|(cases h;done)|skip
  rename_i ln e;simp only at h;cases he:E.ty e with
  |none=>rw[he]at h;cases h
  |some ei=>
   rw[he]at h;simp only[Option.some.injEq,Prod.mk.injEq]at h;obtain⟨e1,e2,e3⟩:=h;subst e1;subst e2;subst e3
   have hp:0<ln*ei.size:=Nat.mul_pos h0 h1;have hc:¬(st=.dead∨cs.length<0+ln*ei.size∨cs.length=0):=by
    rintro(h|h|h)
    ·exact hd h
    ·omega
    ·omega
   have Jl:¬(st=.dead∨cs.length<ln*ei.size∨cs=[]):=by
    rintro(h|h|h)
    ·exact hd h
    ·omega
    ·rw[h]at hl;simp at hl;omega
   simp[HT,hi,gY,he,fN,hiE,loE,hb,Jl];omega
def Ws{k l:Nat}{a b:V3}(ba:BV k a)(bb:BV l b):Bq (3*(k+l)+4) (afc a b):=by have h1:=((PJ.add (ba.1.mul bb.1)).add (ba.2.1.mul bb.2.1)).add (ba.2.2.mul bb.2.2);exact h1.mono (by omega)
def I5{v w:AV}{a b:V3}(h:kD v a)(h':kD w b){k l:Nat}(ba:BV k a)(bb:BV l b)(hk:k+l<=10000000000:=by omega):∃r,aP E 123 [v,w]=some r/\eu r (afc a b):=by
 obtain⟨r,hr,ir⟩:=uD (E:=E) (f:=69) (fc:=[]) aAz rfl h h' (c:=aBY a b) (fun x y hx hy=>oc (E:=E) hx hy ba.1 bb.1) (fun x y hx hy=>oc (E:=E) hx hy ba.2.1 bb.2.1) (fun x y hx hy=>oc (E:=E) hx hy ba.2.2 bb.2.2);obtain⟨n0,m0,n1,m1,n2,m2,n3,m3,n4,m4,n5,m5,rfl,-,-,-,P,O⟩:=dC h;obtain⟨p0,q0,p1,q1,p2,q2,p3,q3,p4,q4,p5,q5,rfl,-,-,-,P',O'⟩:=dC h';obtain⟨s0,t0,s1,t1,s2,t2,s3,t3,s4,t4,s5,t5,rfl,e1,e2,e3,P2,O2⟩:=dC ir;obtain⟨u,hu,iu⟩:=TU (E:=E) e1 e2 e3 (ba.1.mul bb.1) (ba.2.1.mul bb.2.1) (ba.2.2.mul bb.2.2) (by omega);obtain⟨i0,j0,i1,j1,_,_,rfl,-,-,-,-⟩:=db iu;have D:=cJ _ iu;have MV:=yV ir;have gH:=fun(H:Hp) (hH:H[3]?=some (.cells .live [.bool s0,t0,.bool s1,t1,.bool s2,t2,.bool s3,t3,.bool s4,t4,.bool s5,t5]))=>yg (H:=H) (b:=3) (m:=3) (s:=4) hH (by decide) rfl MV
 have atb:=gH [.cells .live [.bool n0,m0,.bool n1,m1,.bool n2,m2,.bool n3,m3,.bool n4,m4,.bool n5,m5],.cells .live [.bool p0,q0,.bool p1,q1,.bool p2,q2,.bool p3,q3,.bool p4,q4,.bool p5,q5],.cells .live [.bool false,.aH,.bool false,.aH],.cells .live [.bool s0,t0,.bool s1,t1,.bool s2,t2,.bool s3,t3,.bool s4,t4,.bool s5,t5]] rfl;have C2:=yS (E:=E) ahQ (H:=[.cells .live [.bool n0,m0,.bool n1,m1,.bool n2,m2,.bool n3,m3,.bool n4,m4,.bool n5,m5],.cells .live [.bool p0,q0,.bool p1,q1,.bool p2,q2,.bool p3,q3,.bool p4,q4,.bool p5,q5],.cells .live [.bool false,.aH,.bool false,.aH],.cells .live [.bool s0,t0,.bool s1,t1,.bool s2,t2,.bool s3,t3,.bool s4,t4,.bool s5,t5]]) (b:=3) rfl (by decide) rfl;refine oA aqW ?_;intro ts hl g0 g1;unfold aot;cases tO:bQ (.agg [.bool i0,j0,.bool i1,j1])with
 |true=>
  simp only[↓aL,aM,↓aS,aJ,↓reduceIte,aa,ah,ae,Tryz.f123,hl,g0,g1,P,P',O2,hr,C2,atb,hu,tO,D];exact iu
 |false=>
  simp only[↓aL,aM,↓aS,aJ,↓reduceIte,aa,ah,ae,Tryz.f123,hl,g0,g1,P,P',O2,hr,C2,atb,hu,tO,D];exact iu
end Go.Proofs.YtmkjgfnicfpjpaaGreatDoor
namespace Go.Proofs.YtmkjgfnicfpjpaaGreatDoor
open Go Dv
variable{E:Env}[C:Ctx E]
def KL(x:Int):Bool:=decide (x< -4096∨4096<x)
def aeh{x:Int}(h:x< -4096):KL x=true:=bj (.inl h)
def aei{x:Int}(h:4096<x):KL x=true:=bj (.inr h)
def alI{x:Int}(h1:¬x< -4096)(h2:¬4096<x):KL x=false:=bh (by omega)
def Hz{x:Int}(h:KL x=false): -4096<=x/\x<=4096:=by unfold KL at h;have:=of_decide_eq_false h;omega
def Tl{x:Int}:aP E 201 [.int .i64 x]=some (.bool (KL x)):=by
 suffices hh:∃r,aP E 201 [.int .i64 x]=some r/\r=.bool (KL x)by obtain⟨r,h1,rfl⟩:=hh;exact h1
 refine nY arA ?_;intro ts hl g0;unfold apa;by_cases h1:x< -4096
 ·have d1:decide (x< -4096)=true:=bj h1;simp only[↓aL,aM,aa,ae,Tryz.f201,aB,hl,g0,d1];rw[aeh h1]
 have d1:decide (x< -4096)=false:=bh h1;by_cases h2:4096<x
 ·have d2:decide (x>4096)=true:=bj h2;simp only[↓aL,aM,aa,ae,Tryz.f201,aB,hl,g0,d1,d2];rw[aei h2]
 ·have d2:decide (x>4096)=false:=bh h2;simp only[↓aL,aM,aa,ae,Tryz.f201,aB,hl,g0,d1,d2];rw[alI h1 h2]
def aqs(p:I3)(i:Nat):Int:=[p.x,p.y,p.z].getD i 0
def Wh(p:I3):pZ p=iL [p.x,p.y,p.z]:=rfl
def ajN{H:Hp}{b:Nat}{p:I3}{v:AV}(h:H[b]?=some (.cells .live (pZ p)))(hv:Flat v):sI false H [.aI b 0 3 1 3,v]=some ([.aK (pZ p) 3,v],[b]):=by
 exact nk (m:=2) (bs:=[b]) (ft.cons (Fr.hsA h (by decide) rfl (ft.flat (fun c hc=>by
  simp only[pZ,aNe,aV0,or_false]at hc;rcases hc with rfl|rfl|rfl<;>exact iX))) (ft.cons ((Fr.flat hv).up (by omega)) ft.nil)) (by omega) (by simp[aV,aU])
def HA{p:I3}:∃r,aP E 155 [v3 p]=some r/\∃b:Bool,r=.bool b/\(b=false->B3 4096 p):=by
 obtain⟨r,hr,b,rfl,hb⟩:=oU (E:=E) .i .i (n:=3) (g:=201) (cs:=pZ p) (caps:=[]) (el:=fun i=>.int .i64 (aqs p i)) (p:=fun i=>KL (aqs p i)) (by omega) (bO C) (by rw[Wh];exact yr _) rfl
  (fun i hi=>by rw[Wh];exact XS (xs:=[p.x,p.y,p.z]) hi) (fun i hi=>rfl) (fun i hi=>Tl)
 have C2:=yS (E:=E) U6 (H:=[.cells .live (pZ p)]) (b:=0) rfl (by decide) rfl;have gH:=ajN (H:=[.cells .live (pZ p)]) (b:=0) (p:=p) (v:=.func 201 [] []) rfl CJ;refine nY aq5 ?_;intro ts hl g0;unfold aoC;unfold v3 at g0;unfold pZ at gH hr C2;simp only[↓aL,aM,↓aS,aJ,aa,ae,Tryz.f155,hl,g0,C2,gH,hr];refine⟨b,rfl,fun e=>?_⟩;have h:=hb e;exact⟨Hz (h 0 (by omega)),Hz (h 1 (by omega)),Hz (h 2 (by omega))⟩
def acW{H:Hp}{b c:Nat}{p q:I3}(h:H[b]?=some (.cells .live (pZ p)))(h2:H[c]?=some (.cells .live (pZ q))):sI false H [.aI b 0 3 1 3,.aI c 0 3 1 3]=some ([.aK (pZ p) 3,.aK (pZ q) 3],[b]++[c]):=by
 have hh:∀p:I3,∀c∈pZ p,Flat c:=fun p c hc=>by
  simp only[pZ,aNe,aV0,or_false]at hc;rcases hc with rfl|rfl|rfl<;>exact iX
 exact nk (m:=2) (ft.cons (Fr.hsA h (by decide) rfl (ft.flat (hh p))) (ft.cons (Fr.hsA h2 (by decide) rfl (ft.flat (hh q))) ft.nil)) (by omega) (by simp[aV,aU])
def aht{a b:I3}(h:LxI [a.x,a.y,a.z] [b.x,b.y,b.z]):rV a b:=by
 rcases h with h|⟨i,hi,hj,eh⟩
 ·exact absurd h (by simp)
 ·have h3:i<3:=hi;rcases i with _|_|_|i
  ·exact .inl eh
  ·exact .inr ⟨hj 0 (by omega),.inl eh⟩
  ·exact .inr ⟨hj 0 (by omega),.inr ⟨hj 1 (by omega),eh⟩⟩
  ·omega
def Kv{p q:I3}:∃r,aP E 156 [v3 p,v3 q]=some r/\∃z:Int,r=.int .i64 z/\(z<0->rV p q):=by obtain⟨r,hr,z,rfl,hz⟩:=Gp (E:=E) (xs:=[p.x,p.y,p.z]) (ys:=[q.x,q.y,q.z]) (by simp) (by simp);have C2:=yS (E:=E) U6 (H:=[.cells .live (pZ p),.cells .live (pZ q)]) (b:=0) rfl (by decide) rfl;have atK:=yS (E:=E) U6 (H:=[.cells .live (pZ p),.cells .live (pZ q)]) (b:=1) rfl (by decide) rfl;have gH:=acW (H:=[.cells .live (pZ p),.cells .live (pZ q)]) (b:=0) (c:=1) (p:=p) (q:=q) rfl rfl;refine oA aq6 ?_;intro ts hl g0 g1;unfold aoD;unfold v3 at g0 g1;unfold pZ at gH C2 atK;simp only[iL,List.map_cons,List.map_nil,aL4,List.length_nil,Nat.zero_add,ah]at hr;simp only[↓aL,aM,↓aS,aJ,aa,ah,ae,Tryz.f156,hl,g0,g1,C2,atK,gH,hr];exact⟨z,rfl,fun h=>aht (hz h)⟩
def an7(k:IntKind)(a b:Int):Int:=aW k ((BitVec.ofInt k.bits a&&&BitVec.ofInt k.bits b).toNat:Int)
def abt{E:Env}{c:Bool}{t:Nat}{k:IntKind}{a b:Int}:cp E c .and t (.int k a) (.int k b)=some (.int k (an7 k a b)):=by
 simp only[cp,k8,ne_eq,not_true_eq_false,if_false,an7,BitVec.toNat_and]
 first|done|rfl
def aBC(k:IntKind)(a:Int)(n:Int):Int:=a.fdiv ((2:Int)^(min n.toNat k.bits))
def uB{E:Env}{c:Bool}{t:Nat}{n:Int}{k k':IntKind}{a:Int}(h:0<=n:=by decide):cp E c .shr t (.int k a) (.int k' n)=some (.int k (aBC k a n)):=by simp only[cp];rw[if_neg (by omega)];rfl
def Tj{x:Int}:∃r,aP E 158 [.int .u64 x]=some r/\∃z:Int,r=.int .i64 z:=by
 have ha:=fun{c:Bool} {t:Nat} {k:IntKind} {a b:Int}=>abt (E:=E) (c:=c) (t:=t) (k:=k) (a:=a) (b:=b)
 have s1:=fun{c:Bool} {t:Nat} {k k':IntKind} {a:Int}=>uB (E:=E) (c:=c) (t:=t) (n:=1) (k:=k) (k':=k') (a:=a)
 have s2:=fun{c:Bool} {t:Nat} {k k':IntKind} {a:Int}=>uB (E:=E) (c:=c) (t:=t) (n:=2) (k:=k) (k':=k') (a:=a)
 have s3:=fun{c:Bool} {t:Nat} {k k':IntKind} {a:Int}=>uB (E:=E) (c:=c) (t:=t) (n:=4) (k:=k) (k':=k') (a:=a)
 have s4:=fun{c:Bool} {t:Nat} {k k':IntKind} {a:Int}=>uB (E:=E) (c:=c) (t:=t) (n:=8) (k:=k) (k':=k') (a:=a)
 have s5:=fun{c:Bool} {t:Nat} {k k':IntKind} {a:Int}=>uB (E:=E) (c:=c) (t:=t) (n:=16) (k:=k) (k':=k') (a:=a)
 have s6:=fun{c:Bool} {t:Nat} {k k':IntKind} {a:Int}=>uB (E:=E) (c:=c) (t:=t) (n:=32) (k:=k) (k':=k') (a:=a)
 refine nY aq8 ?_;intro ts hl g0;unfold aoF;simp only[↓aL,aM,aa,ae,Tryz.f158,↓ef gT Uw,hl,g0,ha,s1,s2,s3,s4,s5,s6];exact⟨_,rfl⟩
def alx(bG:List I3)(N:I3)(i:Nat)(p:I3):Bool:=I3.dt N (I3.sb p (eU bG i))!=0
def MM{bG:List I3}(hR:UO bG){N p:I3}(bN:B3 134217728 N){i:Nat}(hi:i<bG.length)(hp:B3 4096 p):
  aP E 205 [v3 p,.cS (pZ N) 0,.cS [kO bG] 0,.cS [.int .i64 (i:Int)] 0]=some (.bool (alx bG N i p)):=by
 suffices hh:∃r,aP E 205 [v3 p,.cS (pZ N) 0,.cS [kO bG] 0,.cS [.int .i64 (i:Int)] 0]=some r/\r=.bool (alx bG N i p)by obtain⟨r,h1,rfl⟩:=hh;exact h1
 have pi:=lU (bG:=bG) hi;have ci:=eP (i:=i) (n:=bG.length) hi;have s1:=j7 (E:=E) hp (hR.at i);have d1:=qz (E:=E) bN ((hp.sub (hR.at i)).mono (by omega));simp only[v3]at pi s1 d1;refine gw4 arE ?_;intro ts hl g0 g1 g2 g3;unfold ape;unfold v3 at g0;unfold pZ at g1;unfold kO at g2;simp only[↓aL,aM,↓aS,aJ,↓reduceIte,aa,ah,ae,Tryz.f205,hl,g0,g1,g2,g3,pi,ci,s1,d1];rfl
def Sg{bG:List I3}(hR:UO bG)(hn:bG.length<=60):∃r,aP E 157 [kO bG]=some r/\∃b:Bool,r=.bool b:=by
 have pp:=ud bG;refine nY aq7 ?_;intro ts hl g0;unfold aoE;unfold kO at g0;simp only[↓aL,aM,aJ,aa,ae,Tryz.f157,hl,g0,Cj];refine cC (fun k_ ts H=>∃i:Nat,∃H1,k_=(bG.length-i:Nat)/\ts.length=49/\gt ts 1=.bK 0 0/\gt ts 7=.aK (oZ bG) bG.length/\gt ts 8=.int .i64 (bG.length:Int)/\gt ts 9=.int .i64 (i:Int)/\H=H1/\(i<=bG.length)/\(H1[0]?=some (.cells .live [.aK (oZ bG) bG.length]))) (bG.length) ?_ ?_
 rotate_left
 ·refine⟨0,[.cells .live [.aK (oZ bG) bG.length]],(by first|omega|rfl|simp),(by simp[bc,hl]),?_⟩;simp only[aY,hl,aa,ae]
  iterate 5 refine cI ?_
  refine⟨?_,?_⟩
  ·first|omega|trivial
  ·first|rfl|trivial
 clear hl g0 ts;rintro k_ ts H ⟨i,H1,rfl,hl,g1,g7,g8,g9,rfl,hi,h0⟩;refine VS ?_;by_cases hd:i<bG.length
 rotate_left
 ·have d1:decide ((i:Int)<(bG.length:Int))=false:=bh (by omega);simp only[↓aL,aM,↓reduceIte,aa,hl,g8,g9,d1];exact⟨_,rfl⟩
 have d1:decide ((i:Int)<(bG.length:Int))=true:=bj;have lP:=wz (z:=(i:Int)+1) (m:=i+1);simp only[↓aL,aM,aJ,ct,↓reduceIte,aa,ae,hl,g8,g9,d1];have tK:=(aLq.1 h0).1;refine cC (fun k_ ts H=>∃j:Nat,∃b,∃H1,k_=(i-j:Nat)/\ts.length=49/\gt ts 1=.bK 0 0/\gt ts 3=.bK b 0/\gt ts 7=.aK (oZ bG) bG.length/\gt ts 8=.int .i64 (bG.length:Int)/\gt ts 9=.int .i64 (i:Int)/\gt ts 12=.int .i64 (i:Int)/\gt ts 13=.int .i64 (j:Int)/\H=H1/\(j<=i)/\(H1[0]?=some (.cells .live [.aK (oZ bG) bG.length]))/\(H1[b]?=some (.cells .live [.int .i64 (i:Int)]))) (i) ?_ ?_
 rotate_left
 ·refine⟨0,H.length,(H++[.cells .live [.int .i64 (i:Int)]]),(by first|omega|rfl|simp),(by simp[bc,hl]),?_⟩;simp only[aY,hl,aa,ae,g1,g7,g8,g9]
  iterate 8 refine cI ?_
  refine⟨?_,?_,?_⟩
  ·first|omega|trivial
  ·first|(rw[aOr tK];exact h0)|trivial
  ·first|simp|trivial
 clear hl g1 g7 g8 g9 ts;rintro k_ ts H ⟨j,b,H1,rfl,hl,g1,g3,g7,g8,g9,g12,g13,rfl,hj,h0,hb⟩;refine VS ?_;by_cases lN:j<i
 rotate_left
 ·have d2:decide ((j:Int)<(i:Int))=false:=bh (by omega);simp only[↓aL,aM,↓reduceIte,aa,ae,hl,g9,g12,g13,d2,lP];refine bI ?_;refine⟨_,?_,i+1,H,rfl,(by simp[bc,hl]),?_⟩
  ·first|omega|(simp;omega)
  simp only[aY,hl,aa,ae,g1,g7,g8]
  iterate 5 refine cI ?_
  refine⟨?_,?_⟩
  ·omega
  ·exact h0
 have d2:decide ((j:Int)<(i:Int))=true:=bj;have wj1:=wz (z:=(j:Int)+1) (m:=j+1);simp only[↓aL,aM,aa,ae,hl,g12,g13,d2];refine cC (fun k_ ts H=>∃k:Nat,∃H1,k_=(j-k:Nat)/\ts.length=49/\gt ts 1=.bK 0 0/\gt ts 3=.bK b 0/\gt ts 4=.int .i64 (j:Int)/\gt ts 7=.aK (oZ bG) bG.length/\gt ts 8=.int .i64 (bG.length:Int)/\gt ts 9=.int .i64 (i:Int)/\gt ts 12=.int .i64 (i:Int)/\gt ts 13=.int .i64 (j:Int)/\gt ts 16=.int .i64 (j:Int)/\gt ts 17=.int .i64 (k:Int)/\H=H1/\(k<=j)/\(H1[0]?=some (.cells .live [.aK (oZ bG) bG.length]))/\(H1[b]?=some (.cells .live [.int .i64 (i:Int)]))) (j) ?_ ?_
 rotate_left
 ·refine⟨0,H,(by first|omega|rfl|simp),(by simp[bc,hl]),?_⟩;simp only[aY,hl,aa,ae,g1,g3,g7,g8,g9,g12,g13]
  iterate 11 refine cI ?_
  refine⟨?_,?_,?_⟩
  ·first|omega|trivial
  ·first|exact h0|trivial
  ·first|exact hb|trivial
 clear hl g1 g3 g7 g8 g9 g12 g13 ts;rintro k_ ts H ⟨k,H1,rfl,hl,g1,g3,g4,g7,g8,g9,g12,g13,g16,g17,rfl,hk,h0,hb⟩;refine VS ?_;by_cases hd3:k<j
 rotate_left
 ·have d3:decide ((k:Int)<(j:Int))=false:=bh (by omega);simp only[↓aL,aM,↓reduceIte,aa,ae,hl,g13,g16,g17,d3,wj1];refine bI ?_;refine⟨_,?_,j+1,b,H,rfl,(by simp[bc,hl]),?_⟩
  ·first|omega|(simp;omega)
  simp only[aY,hl,aa,ae,g1,g3,g7,g8,g9,g12]
  iterate 8 refine cI ?_
  refine⟨?_,?_,?_⟩
  ·omega
  ·exact h0
  ·exact hb
 have d3:decide ((k:Int)<(j:Int))=true:=bj;have qm:=wz (z:=(k:Int)+1) (m:=k+1);have tK:=(aLq.1 h0).1;have akz:=(aLq.1 hb).1;have c0:∀{T:Hp},cellAt (H++T) 0 0=some (.aK (oZ bG) bG.length):=by intro T;rw[bY,aOr tK,h0];rfl
 have cb:∀{T:Hp},cellAt (H++T) b 0=some (.int .i64 (i:Int)):=by intro T;rw[bY,aOr akz,hb];rfl
 have c0':cellAt H 0 0=some (.aK (oZ bG) bG.length):=by rw[bY,h0];rfl
 have D9:cellAt H b 0=some (.int .i64 (i:Int)):=by rw[bY,hb];rfl
 have pi:=lU (bG:=bG) (i:=i) hd;have pj:=lU (bG:=bG) (i:=j);have pk:=lU (bG:=bG) (i:=k);have ci:=eP (i:=i) (n:=bG.length) hd;have cj:=eP (i:=j) (n:=bG.length);have ckk:=eP (i:=k) (n:=bG.length);have s1:=j7 (E:=E) (hR.at j) (hR.at i);have s2:=j7 (E:=E) (hR.at k) (hR.at i);have x1:=tf (E:=E) ((hR.at j).sub (hR.at i)) ((hR.at k).sub (hR.at i));have bN:=((hR.at j).sub (hR.at i)).Wg ((hR.at k).sub (hR.at i));generalize I3.cr (I3.sb (eU bG j) (eU bG i)) (I3.sb (eU bG k) (eU bG i))=N at x1 bN;have hq:∀{c:Bool},cp E c .eql 89 (.agg [.int .i64 N.x,.int .i64 N.y,.int .i64 N.z]) (.agg [.int .i64 0,.int .i64 0,.int .i64 0])=some (.bool (decide (N=I3.zr))):=fun{c}=>PC (E:=E) (c:=c) (a:=N) (b:=I3.zr)
 simp only[v3]at s1 s2 x1 pi pj pk;have n1:(0==H.length)=false:=beq_eq_false_iff_ne.2 (by omega);have n2:(b==H.length)=false:=beq_eq_false_iff_ne.2 (by omega);have n3:(H.length==0)=false:=beq_eq_false_iff_ne.2 (by omega);have n4:(H.length==b)=false:=beq_eq_false_iff_ne.2 (by omega);by_cases hz:N=I3.zr
 ·rw[bj hz]at hq;simp only[↓aL,aM,↓aS,aJ,ct,↓reduceIte,aa,ah,ae,hl,g1,g3,g4,g16,g17,d3,qm,c0,cb,pi,pj,pk,ci,cj,ckk,s1,s2,x1,hq,n1,n2,eL];refine bI ?_;refine⟨_,?_,k+1,(H++[.cells .live [.int .i64 N.x,.int .i64 N.y,.int .i64 N.z]]),rfl,(by simp[bc,hl]),?_⟩
  ·first|omega|(simp;omega)
  simp only[aY,hl,aa,ae,g1,g3,g4,g7,g8,g9,g12,g13,g16]
  iterate 11 refine cI ?_
  refine⟨?_,?_,?_⟩
  ·omega
  ·rw[aOr tK];exact h0
  ·rw[aOr akz];exact hb
 rw[bh hz]at hq;obtain⟨r,hr,bb,rfl,-⟩:=oU (E:=E) .v .v (n:=bG.length) (g:=205) (cs:=oZ bG) (caps:=[.cS (pZ N) 0,.cS [kO bG] 0,.cS [.int .i64 (i:Int)] 0]) (el:=fun q=>v3 (eU bG q)) (p:=fun q=>alx bG N i (eU bG q)) (by omega) (bO C) pp (by simp[aV,aU,pZ,kO,pp])
  (fun q hq=>lU hq) (fun q hq=>ae9 _) (fun q hq=>MM hR bN hd (hR.at q))
 obtain⟨u,gH⟩:∃u,sI false (H++[.cells .live [.int .i64 N.x,.int .i64 N.y,.int .i64 N.z]]) [.aK (oZ bG) bG.length,.func 205 [] [.bK H.length 0,.bK 0 0,.bK b 0]]=some ([.aK (oZ bG) bG.length,.func 205 [] [.cS (pZ N) 0,.cS [kO bG] 0,.cS [.int .i64 (i:Int)] 0]],u):=by
  refine⟨_,nk (m:=3) (ft.cons ((Fr.flat BD).up (by omega)) (ft.cons (Fr.func (ft.cons (Fr.hp (st:=.live) (cs:=pZ N) (by simp[pZ]) (by decide) (ft.flat ?_)) (ft.cons (Fr.hp (by rw[aOr tK];exact h0) (by decide) (ft.flat ?_)) (ft.cons (Fr.hp (by rw[aOr akz];exact hb) (by decide) (ft.flat ?_)) ft.nil)))) ft.nil)) (by omega) (by simp[aV,aU])⟩
  ·intro c hc;simp only[pZ,aNe,aV0,or_false]at hc;rcases hc with rfl|rfl|rfl<;>exact iX
  ·intro c hc;simp only[aNe,aV0,or_false]at hc;subst hc;exact BD
  ·intro c hc;simp only[aNe,aV0,or_false]at hc;subst hc;exact iX
 simp only[pZ]at gH hr;simp only[↓aL,aM,↓aS,aJ,ct,↓reduceIte,aa,ah,ae,hl,g1,g3,g4,g16,g17,d3,c0,cb,pi,pj,pk,ci,cj,ckk,s1,s2,x1,hq,n1,n2,gH,hr,eL];exact⟨_,rfl⟩
def nA(l:List Nat):List AV:=l.map fun q=>.int .i64 ((q:Nat):Int)
def yG{N:I3}{p:Nat->I3}{x r:Nat}:∀(l:List Nat) (n:Option Nat),I3.z7 N p x l n=some r->r∈l∨n=some r
 |[],n,h=>.inr h
 |i::l,n,h=>by
  simp only[I3.z7]at h;split at h
  ·rcases yG l n h with h|h;exact .inl (aOk _ h);exact .inr h
  ·cases n with
   |none=>
    rcases yG l _ h with h|h
    ·exact .inl (aOk _ h)
    ·injection h with h;subst h;exact .inl aOw
   |some m=>
    dsimp only at h
    split at h
    ·rcases yG l _ h with h|h
     ·exact .inl (aOk _ h)
     ·injection h with h;subst h;exact .inl aOw
    ·rcases yG l _ h with h|h;exact .inl (aOk _ h);exact .inr h
def nxV:Option Nat->Int
 |none=> -1
 |some q=>(q:Int)
def TG{bG:List I3}{N:I3}{on:Nat}(hR:UO bG)(hI:UP bG)(hn:bG.length<=8)(hP:UR bG N on)(hon:on<2^bG.length):
  ∃r,aP E 160 [kO bG,.agg (yJ (N,on))]=some r/\∃out:List Nat,r=lW (nA out) out.length/\out≠[]/\out.length<=8/\∀x∈out,x<bG.length:=by
 obtain⟨a,S0⟩:=OE hR hI hn hP;have aHJ:on<256:=Nat.lt_of_lt_of_le hon (Nat.pow_le_pow_right (n:=2) (by omega) hn);refine oA ara ?_;intro ts hl g0 g1;unfold aoH;unfold kO at g0;simp only[yJ]at g1;simp only[↓aL,aM,aJ,aa,ae,Tryz.f160,aB,hl,g1];refine cC (fun k_ ts H=>∃m v l H1,k_=m+1/\ts.length=101/\gt ts 0=.aK (oZ bG) bG.length/\gt ts 3=.bK 0 0/\gt ts 5=v/\gt ts 6=.int .u64 (m:Int)/\H=H1/\(m<256)/\(mK on=l++mK m)/\(H1[0]?=some (.cells .live [.int .i64 N.x,.int .i64 N.y,.int .i64 N.z,.int .u64 ((on:Nat):Int)]))/\(uy 1 1 v H1 l.length (nA l))) (on+1) ?_ ?_
 rotate_left
 ·refine⟨on,.aH,[],[.cells .live [.int .i64 N.x,.int .i64 N.y,.int .i64 N.z,.int .u64 ((on:Nat):Int)]],(by first|omega|rfl|simp),(by simp[bc,hl]),?_⟩;simp only[aY,hl,aa,ae,g0]
  iterate 5 refine cI ?_
  refine⟨?_,?_,?_,?_⟩
  ·first|omega|trivial
  ·first|rfl|trivial
  ·first|rfl|trivial
  ·first|exact .inl ⟨rfl,rfl,rfl⟩|trivial
 clear hl g0 g1 ts;rintro k_ ts H ⟨m,v,l,H1,rfl,hl,g0,g3,g5,g6,rfl,hm,hb,hH,hs⟩;refine VS ?_;by_cases h0:0<m
 ·have b0:((m:Int)!=0)=true:=by simp;omega
  obtain⟨e1,e2,e3⟩:=Mg hm h0;have ht:=ae5 (E:=E) hm h0;have w1:aW .u64 ((m:Int)-1)=((m-1:Nat):Int):=by rw[show(m:Int)-1=((m-1:Nat):Int)by omega];exact wrap_u64
  have ha:=fun{c:Bool} {t:Nat}=>IK (E:=E) (c:=c) (t:=t) (a:=m) (b:=m-1)
  have BG:∀aR,bZ E aR 67 1 [(0,.int .i64 ((tz m:Nat):Int))]=some (.aI aR 0 1 1 1,[(aR,.cells .live [.int .i64 ((tz m:Nat):Int)])]):=fun aR=>lk HL rfl (by decide) (by decide) rfl
  have hll:l.length<=8:=by
   have:=S0.len;rw[hb,aL9]at this;omega
  have h1:1<=H.length:=by have:=(aLq.1 hH).1;omega
  obtain⟨v',bJ,lD,xp,sM,pO⟩:=xR (E:=E) (H:=H) (x:=[.int .i64 ((tz m:Nat):Int)]) HL (by decide) hs (by simp[nA]) rfl rfl (by unfold fH;omega) (by omega) h1;simp only[↓aL,aM,↓aS,aJ,aa,ae,hl,g5,g6,b0,ht,w1,ha,BG,eK,lD];generalize cF.app _ (cF.bJ bJ)=H3 at xp sM pO⊢;refine bI ?_;refine⟨_,?_,m&&&(m-1),v',l++[tz m],H3,rfl,(by simp[bc,hl]),?_⟩
  ·first|omega|(simp;omega)
  simp only[aY,hl,aa,ae,g0,g3]
  iterate 5 refine cI ?_
  refine⟨?_,?_,?_,?_⟩
  ·omega
  ·rw[hb,e1];simp
  ·rw[sM 0 (by omega)];exact hH
  ·simpa[nA]using xp
 obtain rfl:m=0:=by omega
 have CW:l=mK on:=by rw[hb];simp[show mK 0=[]from by decide]
 have hhd:=S0.head;rw[<-CW]at S0 hhd;have hl0:0<l.length:=by cases l with
  |nil=>cases hhd
  |cons x r=>simp
 rcases hs with⟨e0,_,_⟩|⟨-,bo,bo1,bo2,rfl,hbo⟩
 ·omega
 have Iq:∀{q:Nat} {T:Hp},q<l.length->cellAt (H++T) bo q=some (.int .i64 ((l.getD q 0:Nat):Int)):=by intro q T hq;rw[bY,aOr bo2,hbo];simp[nA,hq,aT1]
 have b0:(((0:Nat):Int)!=0)=false:=by decide
 have c0:(0<(l.length:Int))=True:=eq_true (by omega);have Io:l.getD 0 0=a:=by
  cases l with
  |nil=>cases hhd
  |cons x r=>simpa using hhd
 have Jk:cellAt H bo 0=some (.int .i64 ((a:Nat):Int)):=by
  have:=Iq (q:=0) (T:=[]) hl0
  rw[List.append_nil,Io]at this;exact this
 have BG:∀aR,bZ E aR 67 1 [(0,.int .i64 ((a:Nat):Int))]=some (.aI aR 0 1 1 1,[(aR,.cells .live [.int .i64 ((a:Nat):Int)])]):=fun aR=>lk HL rfl (by decide) (by decide) rfl
 simp only[↓aL,aM,aJ,↓reduceIte,aa,ae,an,ar,aB,aE,hl,g5,g6,c0,Jk,BG,eK];obtain⟨HB,hHB⟩:∃HB,HB=H:=⟨_,rfl⟩;have W0:=I3.aB2 (N:=N) (List.mem_of_mem_head? (by rw[hhd];rfl)) S0.ext;refine cC (fun k_ ts H=>∃out last w H1,k_=(9-out.length:Nat)/\ts.length=101/\gt ts 0=.aK (oZ bG) bG.length/\gt ts 3=.bK 0 0/\gt ts 5=.aI bo 0 l.length 1 l.length/\gt ts 7=w/\H=H1/\(H1[0]?=some (.cells .live [.int .i64 N.x,.int .i64 N.y,.int .i64 N.z,.int .u64 ((on:Nat):Int)]))/\(H1[bo]?=some (.cells .live (nA l)))/\(uy 1 (bo+1) w H1 out.length (nA out))/\(out.getLast?=some last)/\(I3.Way N (eU bG) l out a last)/\(out.head?=some a)) (8) ?_ ?_
 rotate_left
 ·refine⟨[a],a,(.aI H.length 0 1 1 1),(H++[.cells .live [.int .i64 ((a:Nat):Int)]]),(by first|omega|rfl|simp),(by simp[bc,hl]),?_⟩;simp only[aY,hl,aa,ae,g0,g3,g5]
  iterate 5 refine cI ?_
  refine⟨?_,?_,?_,?_,?_,?_⟩
  ·first|(rw[aOr (by omega)];exact hH)|trivial
  ·first|(rw[aOr bo2];exact hbo)|trivial
  ·first|(exact .inr ⟨by simp,H.length,by omega,by simp,rfl,by rw[List.getElem?_append_right (Nat.le_refl _)];simp[nA]⟩)|trivial
  ·first|rfl|trivial
  ·first|exact W0|trivial
  ·first|rfl|trivial
 clear hl g0 g3 g5 g6 ts;rintro k_ ts H ⟨out,last,w,H1,rfl,hl,g0,g3,g5,g7,rfl,hH,hbo,hs,atm,hW,ate⟩;refine VS ?_;have atn:out.length<=8:=Nat.le_trans hW.len S0.len;have LQ:0<out.length:=List.length_pos_of_mem hW.ain;have Xn:out[out.length-1]?=some last:=by rw[<-List.getLast?_eq_getElem?];exact atm
 rcases hs with⟨e0,_,_⟩|⟨-,bw,bw1,bw2,rfl,hbw⟩
 ·omega
 have oB:cellAt H bw (out.length-1)=some (.int .i64 ((last:Nat):Int)):=by rw[bY,hbw];simp[nA,Xn]
 have w2:=wz (z:=(out.length:Int)-1) (m:=out.length-1);have c2:=eP (i:=out.length-1) (n:=out.length);have asI:bo<H.length:=(aLq.1 hbo).1;have Iq:∀{q:Nat} {T:Hp},q<l.length->cellAt (H++T) bo q=some (.int .i64 ((l.getD q 0:Nat):Int)):=by intro q T hq;rw[bY,aOr asI,hbo];simp[nA,hq,aT1]
 simp only[↓aL,aM,aJ,↓reduceIte,aa,ae,aB,hl,g5,g7,w2,c2,oB];obtain⟨HO,rfl⟩:∃HO,HO=H:=⟨H,rfl⟩;refine AI (id:=4) (fun k_ ts H=>∃q:Nat,∃nx,∃H1,k_=(l.length-q:Nat)/\ts.length=101/\gt ts 0=.aK (oZ bG) bG.length/\gt ts 3=.bK 0 0/\gt ts 5=.aI bo 0 l.length 1 l.length/\gt ts 7=.aI bw 0 out.length 1 out.length/\gt ts 8=.int .i64 (last:Int)/\gt ts 9=.int .i64 (nxV nx)/\gt ts 38=.aI bo 0 l.length 1 l.length/\gt ts 39=.int .i64 (l.length:Int)/\gt ts 40=.int .i64 (q:Int)/\H=H1/\(HO<+:H1)/\(q<=l.length)/\(I3.z7 N (eU bG) last (l.take q) none=nx)) (fun ts H=>∃q:Nat,∃nx,∃H1,ts.length=101/\gt ts 0=.aK (oZ bG) bG.length/\gt ts 3=.bK 0 0/\gt ts 5=.aI bo 0 l.length 1 l.length/\gt ts 7=.aI bw 0 out.length 1 out.length/\gt ts 8=.int .i64 (last:Int)/\gt ts 9=.int .i64 (nxV nx)/\gt ts 38=.aI bo 0 l.length 1 l.length/\gt ts 39=.int .i64 (l.length:Int)/\gt ts 40=.int .i64 (q:Int)/\H=H1/\(HO<+:H1)/\(q<=l.length)/\(I3.z7 N (eU bG) last (l.take q) none=nx)/\(q=l.length)) (l.length) ?_ ?_ ?_
 rotate_left 2
 ·refine⟨0,none,HO,(by first|omega|rfl|simp),(by simp[bc,hl]),?_⟩;simp only[aY,hl,aa,ae,g0,g3,g5,g7]
  iterate 10 refine cI ?_
  refine⟨?_,?_,?_⟩
  ·first|exact List.prefix_rfl|trivial
  ·first|omega|trivial
  ·first|rfl|trivial
 ·clear hl g0 g3 g5 g7 ts;rintro k_ ts H ⟨q,nx,H1,rfl,hl,g0,g3,g5,g7,g8,g9,CR,BE,g40,rfl,Bh,hq,qo⟩;refine VS ?_;by_cases hd:q<l.length
  rotate_left
  ·have d1:decide ((q:Int)<(l.length:Int))=false:=bh (by omega);simp only[↓aL,aM,aa,hl,BE,g40,d1];refine iW ?_;refine⟨q,nx,H,(by simp[bc,hl]),?_⟩;simp only[aY,ae,g0,g3,g5,g7,g8,g9,CR,BE,g40]
   iterate 10 refine cI ?_
   refine⟨?_,?_,?_,?_⟩
   ·exact Bh
   ·omega
   ·exact qo
   ·omega
  have d1:decide ((q:Int)<(l.length:Int))=true:=bj;have cq:=eP (i:=q) (n:=l.length) hd;have aHs:=S0.len;have wq:=wz (z:=(q:Int)+1) (m:=q+1);obtain⟨T,hT⟩:=id Bh;have iU:=Iq (q:=q) (T:=T) hd;rw[hT]at iU;have htk:l.take (q+1)=l.take q++[l.getD q 0]:=by rw[List.take_add_one,aL6 hd,aT1,aL6 hd];rfl
  have him:l.getD q 0∈l:=by rw[aT1,aL6 hd];exact List.getElem_mem hd
  have M4:I3.z7 N (eU bG) last (l.take (q+1)) none=I3.z7 N (eU bG) last [l.getD q 0] nx:=by rw[htk,rD,qo]
  generalize l.getD q 0=i at iU him M4 htk;have hip:=S0.lt i him;have aHr:=S0.len;have zN:=S0.lt last (hW.mo last hW.lin);by_cases LL:i=last
  ·have b1:((i:Int)==(last:Int))=true:=by simp[LL]
   simp only[↓aL,aM,aJ,↓reduceIte,aa,ae,hl,g8,CR,BE,g40,cq,wq,iU,b1];refine bI ?_;refine⟨_,?_,q+1,nx,H,rfl,(by simp[bc,hl]),?_⟩
   ·first|omega|(simp;omega)
   simp only[aY,hl,aa,ae,g0,g3,g5,g7,g8,g9,CR,BE]
   iterate 10 refine cI ?_
   refine⟨?_,?_,?_⟩
   ·exact Bh
   ·omega
   ·rw[M4];simp[I3.z7,LL]
  have b1:((i:Int)==(last:Int))=false:=by
   have:(i:Int)≠(last:Int):=by omega
   simpa using this
  cases nx with
  |none=>
   have d2:decide (nxV none<0)=true:=by decide
   simp only[↓aL,aM,aJ,↓reduceIte,aa,ae,hl,g8,g9,CR,BE,g40,cq,wq,iU,b1,d2];refine bI ?_;refine⟨_,?_,q+1,some i,H,rfl,(by simp[bc,hl]),?_⟩
   ·first|omega|(simp;omega)
   simp only[aY,hl,aa,ae,g0,g3,g5,g7,g8,CR,BE]
   iterate 10 refine cI ?_
   refine⟨?_,?_,?_⟩
   ·exact Bh
   ·omega
   ·rw[M4];simp[I3.z7,LL]
  |some m=>
   have d2:decide (nxV (some m)<0)=false:=bh (by show¬((m:Int)<0);omega);have Jn:m∈l:=by
    rcases yG _ _ qo with h|h
    ·exact List.mem_of_mem_take h
    ·cases h
   have hmp:=S0.lt m Jn;have pm:=lU (bG:=bG) hmp;have pl:=lU (bG:=bG) zN;have pi:=lU (bG:=bG) hip;have cm:=eP (i:=m) (n:=bG.length) hmp;have cl:=eP (i:=last) (n:=bG.length) zN;have ci:=eP (i:=i) (n:=bG.length) hip;have s1:=j7 (E:=E) (hR.at m) (hR.at last);have s2:=j7 (E:=E) (hR.at i) (hR.at last);have bu:=(hR.at m).sub (hR.at last);have bv:=(hR.at i).sub (hR.at last);have x1:=tf (E:=E) bu bv;have y1:=qz (E:=E) hP.bN (bu.Wg bv);have y2:=qz (E:=E) (bv.mono (by omega)) (bv.mono (by omega));have y3:=qz (E:=E) (bu.mono (by omega)) (bu.mono (by omega));have mP:I3.pV N (eU bG last) (eU bG m) (eU bG i)->I3.z7 N (eU bG) last [i] (some m)=some i:=by intro hz;simp only[I3.z7,if_neg LL,if_pos hz]
   have vN:¬I3.pV N (eU bG last) (eU bG m) (eU bG i)->I3.z7 N (eU bG) last [i] (some m)=some m:=by intro hz;simp only[I3.z7,if_neg LL,if_neg hz]
   simp only[I3.pV,I3.tn,I3.q]at mP vN;simp only[v3]at s1 s2 x1 y1 y2 y3 pm pl pi;generalize I3.sb (eU bG m) (eU bG last)=u at*;generalize I3.sb (eU bG i) (eU bG last)=v at*;generalize I3.cr u v=cuv at*;generalize I3.dt N cuv=D at*;generalize I3.dt u u=du at*;generalize I3.dt v v=dv at*;have hN0:∀{x:Hp},fE 3 (H++x) 0 0=some (.agg [.int .i64 N.x,.int .i64 N.y,.int .i64 N.z]):=by intro x;rw[<-hT,List.append_assoc,dY,aOr (aLq.1 hH).1,hH];rfl
   have d2':nxV (some m)=(m:Int):=rfl;rw[d2']at g9 d2;by_cases hD:D<0
   ·have e1:decide (D<0)=true:=bj hD;simp only[↓aL,aM,↓aS,aJ,ct,↓reduceIte,aa,ah,ae,hl,g0,g3,g8,g9,CR,BE,g40,cq,wq,iU,b1,d2,pm,pl,pi,cm,cl,ci,s1,s2,x1,y1,hN0,e1,eL];refine bI ?_;refine⟨_,?_,q+1,some i,(H++[.cells .live [.int .i64 u.x,.int .i64 u.y,.int .i64 u.z],.cells .live [.int .i64 v.x,.int .i64 v.y,.int .i64 v.z]]),rfl,(by simp[bc,hl]),?_⟩
    ·first|omega|(simp;omega)
    simp only[aY,hl,aa,ae,g0,g3,g5,g7,g8,CR,BE]
    iterate 10 refine cI ?_
    refine⟨?_,?_,?_⟩
    ·exact Bh.trans (aV1 _ _)
    ·omega
    ·rw[M4];exact mP (.inl hD)
   have e1:decide (D<0)=false:=bh hD;by_cases Sp:D=0
   rotate_left
   ·have e2:(D==0)=false:=by simpa using Sp
    simp only[↓aL,aM,↓aS,aJ,ct,↓reduceIte,aa,ah,ae,hl,g0,g3,g8,g9,CR,BE,g40,cq,wq,iU,b1,d2,pm,pl,pi,cm,cl,ci,s1,s2,x1,y1,hN0,e1,e2,eL];refine bI ?_;refine⟨_,?_,q+1,some m,(H++[.cells .live [.int .i64 u.x,.int .i64 u.y,.int .i64 u.z],.cells .live [.int .i64 v.x,.int .i64 v.y,.int .i64 v.z]]),rfl,(by simp[bc,hl]),?_⟩
    ·first|omega|(simp;omega)
    simp only[aY,hl,aa,ae,g0,g3,g5,g7,g8,g9,CR,BE]
    iterate 10 refine cI ?_
    refine⟨?_,?_,?_⟩
    ·exact Bh.trans (aV1 _ _)
    ·omega
    ·rw[M4];exact vN (by omega)
   have e2:(D==0)=true:=by simpa using Sp
   by_cases hdv:du<dv
   ·have e3:decide (dv>du)=true:=bj hdv;simp only[↓aL,aM,↓aS,aJ,ct,↓reduceIte,aa,ah,ae,hl,g0,g3,g8,g9,CR,BE,g40,cq,wq,iU,b1,d2,pm,pl,pi,cm,cl,ci,s1,s2,x1,y1,y2,y3,hN0,e1,e2,e3,eL];refine bI ?_;refine⟨_,?_,q+1,some i,(H++[.cells .live [.int .i64 u.x,.int .i64 u.y,.int .i64 u.z],.cells .live [.int .i64 v.x,.int .i64 v.y,.int .i64 v.z]]),rfl,(by simp[bc,hl]),?_⟩
    ·first|omega|(simp;omega)
    simp only[aY,hl,aa,ae,g0,g3,g5,g7,g8,CR,BE]
    iterate 10 refine cI ?_
    refine⟨?_,?_,?_⟩
    ·exact Bh.trans (aV1 _ _)
    ·omega
    ·rw[M4];exact mP (.inr ⟨Sp,hdv⟩)
   ·have e3:decide (dv>du)=false:=bh hdv;simp only[↓aL,aM,↓aS,aJ,ct,↓reduceIte,aa,ah,ae,hl,g0,g3,g8,g9,CR,BE,g40,cq,wq,iU,b1,d2,pm,pl,pi,cm,cl,ci,s1,s2,x1,y1,y2,y3,hN0,e1,e2,e3,eL];refine bI ?_;refine⟨_,?_,q+1,some m,(H++[.cells .live [.int .i64 u.x,.int .i64 u.y,.int .i64 u.z],.cells .live [.int .i64 v.x,.int .i64 v.y,.int .i64 v.z]]),rfl,(by simp[bc,hl]),?_⟩
    ·first|omega|(simp;omega)
    simp only[aY,hl,aa,ae,g0,g3,g5,g7,g8,g9,CR,BE]
    iterate 10 refine cI ?_
    refine⟨?_,?_,?_⟩
    ·exact Bh.trans (aV1 _ _)
    ·omega
    ·rw[M4];exact vN (by omega)
 clear hl g0 g3 g5 g7 ts;rintro ts H ⟨q,nx,H1,hl,g0,g3,g5,g7,g8,g9,CR,BE,g40,rfl,Bh,hq,qo,hqe⟩;subst hqe;rw[List.take_length]at qo;obtain⟨r,hr,hrl,hrw⟩:=hW.next S0.pl (S0.two last);rw[qo]at hr;subst hr;obtain⟨T,hT⟩:=Bh;have atB:out[0]?=some a:=by rw[<-List.head?_eq_getElem?];exact ate
 have Jk:cellAt H bw 0=some (.int .i64 ((a:Nat):Int)):=by rw[<-hT,bY,aOr bw2,hbw];simp[nA,atB]
 have c0:(0<(out.length:Int))=True:=eq_true (by omega);have g9':gt ts 9=.int .i64 ((r:Nat):Int):=g9;have hsw:uy 1 (bo+1) (.aI bw 0 out.length 1 out.length) H out.length (nA out):=.inr ⟨LQ,bw,bw1,by rw[<-hT,aL9];omega,rfl,by rw[<-hT,aOr bw2];exact hbw⟩;by_cases hra:r=a
 ·have b1:((r:Int)==(a:Int))=true:=by simp[hra]
  obtain⟨bs,gH⟩:=hsw.fz (by simp[nA]) (fun c hc=>by obtain⟨x,_,rfl⟩:=List.mem_map.1 hc;exact iX);rw[show aU (AV.aI bw 0 out.length 1 out.length)=false from rfl]at gH;simp only[↓aL,aM,aJ,↓reduceIte,aa,ae,an,ar,hl,g7,g9',c0,Jk,b1,gH];exact⟨out,rfl,fun e=>by rw[e]at LQ;exact absurd LQ (by simp),atn,fun x hx=>S0.lt x (hW.mo x hx)⟩
 have b1:((r:Int)==(a:Int))=false:=by
  have:(r:Int)≠(a:Int):=by omega
  simpa using this
 have hHl:bo+1<=H.length:=by rw[<-hT,aL9];omega
 have BG:∀aR,bZ E aR 67 1 [(0,.int .i64 ((r:Nat):Int))]=some (.aI aR 0 1 1 1,[(aR,.cells .live [.int .i64 ((r:Nat):Int)])]):=fun aR=>lk HL rfl (by decide) (by decide) rfl
 obtain⟨v',bJ,lD,xp,sM,pO⟩:=xR (E:=E) (H:=H) (x:=[.int .i64 ((r:Nat):Int)]) HL (by decide) hsw (by simp[nA]) rfl rfl (by unfold fH;omega) (by omega) hHl;have Xd:=hrw hra;have ato:=Nat.le_trans Xd.len S0.len;rw[aL9,aL4,List.length_nil]at ato;simp only[↓aL,aM,aJ,↓reduceIte,aa,ae,an,ar,hl,g7,g9',c0,Jk,b1,BG,eK,lD];generalize cF.app _ (cF.bJ bJ)=H3 at xp sM pO⊢;refine bI ?_;refine⟨_,?_,out++[r],r,v',H3,rfl,(by simp[bc,hl]),?_⟩
 ·first|omega|(simp;omega)
 simp only[aY,hl,aa,ae,g0,g3,g5]
 iterate 5 refine cI ?_
 refine⟨?_,?_,?_,?_,?_,?_⟩
 ·rw[sM 0 (by omega),<-hT,aOr (by omega)];exact hH
 ·rw[sM bo (by omega),<-hT,aOr asI];exact hbo
 ·simpa[nA]using xp
 ·simp
 ·exact Xd
 ·rw[List.head?_append,ate];rfl
inductive lf:Nat->Nat->Nat->Nat->Nat->Nat->Nat->Nat->Nat->Nat->Nat->Nat->Nat->Nat->Nat->Prop
 |x0:lf 4 251 287 252 255 256 257 258 310 289 288 254 253 212 168
 |x1:lf 5 242 282 243 246 247 248 249 309 286 285 245 244 209 161
def SI{K u0 u1 u2 u3 u4 u5 u6 u7 u8 u9 vC sN sG sH:Nat}(I:lf K u0 u1 u2 u3 u4 u5 u6 u7 u8 u9 vC sN sG sH){b n kc a c g:Nat}{row:Nat->List AV}{mT:List Nat}{H0:Hp}{cz:Nat->Nat->Int}(R:qX K row)(hg:bF E g=false)(hc:∀p q,p<n->q<n->aP E g [.agg (row p),.agg (row q)]=some (.int .i64 (cz p q)))
  (wM:SR H0 b row mT) (sC:mT.Perm (aOR n)) (hn:n<=1000000) (CV:a<=c) (nh:c<=n):
  ∃r H',cV E u0 [.aI b 0 n K kc,.int .i64 (a:Int),.int .i64 (c:Int),.func g [] []] H0=some (r,H')/\pY b n row H0 r H':=by
 obtain⟨D,hD⟩:∃D,D=AV.aI b 0 n K kc:=⟨_,rfl⟩;have I0:=I;cases I
 all_goals
  have kg:=fun{dr st:Bool} {bl:List AV} {H:Hp} {k:AV->cF->Prop}=>jy (E:=E) (dr:=dr) (st:=st) (f:=g) (bl:=bl) (H:=H) (k:=k) hg
  have w0:aW .i64 ((a:Int)+1)=((a+1:Nat):Int):=by rw[wrap_i64];omega
  refine gi4 (gd C) (by rw[C.fn];first|with_reducible exact agn|with_reducible exact agm) (by decide) ?_;intro ts hl g0 g1 g2 g3;rw[<-hD]at g0
  first|unfold aiN|unfold aiM
  simp only[↓aL,aM,aa,Tryz.f251,Tryz.f242,hl,g1,w0];refine cC (fun k_ ts H=>∃i js H1,k_=n+1-i/\ts.length=53/\gt ts 0=D/\gt ts 1=.int .i64 (a:Int)/\gt ts 2=.int .i64 (c:Int)/\gt ts 3=.func g [] []/\gt ts 8=.int .i64 (i:Int)/\H=H1/\(a+1<=i)/\(SR H1 b row js)/\(js.Perm (aOR n))/\(HW b H0 H1)) (n+1-(a+1)) ?_ ?_
  rotate_left
  ·refine⟨a+1,mT,H0,(by first|omega|rfl|simp),(by simp[bc,hl]),?_⟩;simp only[aY,hl,aa,ae,g0,g1,g2,g3]
   iterate 6 refine cI ?_
   refine⟨?_,?_,?_,?_⟩
   ·first|omega|trivial
   ·first|exact wM|trivial
   ·first|exact sC|trivial
   ·first|exact HW.refl _ _|trivial
  clear hl g0 g1 g2 g3 ts;rintro k_ ts H ⟨i,js,H1,rfl,hl,g0,g1,g2,g3,g8,rfl,hi,hS,hp,hW⟩;refine VS ?_;by_cases hd:i<c
  rotate_left
  ·have dc:decide ((i:Int)<(c:Int))=false:=bh (by omega);simp only[↓aL,aM,↓reduceIte,aa,ae,hl,g2,g8,dc];exact⟨rfl,hW,js,hS,hp⟩
  have dc:decide ((i:Int)<(c:Int))=true:=bj;simp only[↓aL,aM,aa,ae,hl,g2,g8,dc];refine cC (fun k_ ts H=>∃j JF H2,k_=j+1/\ts.length=53/\gt ts 0=D/\gt ts 1=.int .i64 (a:Int)/\gt ts 2=.int .i64 (c:Int)/\gt ts 3=.func g [] []/\gt ts 8=.int .i64 (i:Int)/\gt ts 9=.int .i64 (j:Int)/\H=H2/\(a<=j)/\(j<=i)/\(SR H2 b row JF)/\(JF.Perm (aOR n))/\(HW b H0 H2)) (i+1) ?_ ?_
  rotate_left
  ·refine⟨i,js,H,(by first|omega|rfl|simp),(by simp[bc,hl]),?_⟩;simp only[aY,hl,aa,ae,g0,g1,g2,g3,g8]
   iterate 7 refine cI ?_
   refine⟨?_,?_,?_,?_,?_⟩
   ·first|omega|trivial
   ·first|omega|trivial
   ·first|exact hS|trivial
   ·first|exact hp|trivial
   ·first|exact hW|trivial
  clear hl g0 g1 g2 g3 g8 ts;rintro k_ ts H ⟨j,JF,H2,rfl,hl,g0,g1,g2,g3,g8,g9,rfl,hj,xj,hS',hp',Xd⟩;refine VS ?_;have w1:aW .i64 ((i:Int)+1)=((i+1:Nat):Int):=by rw[wrap_i64];omega
  by_cases hja:a<j
  rotate_left
  ·have dj:decide ((j:Int)>(a:Int))=false:=bh (by omega);simp only[↓aL,aM,aJ,↓reduceIte,aa,ah,ae,hl,g1,g8,g9,dj,w1];refine bI ?_;refine⟨_,?_,i+1,JF,H,rfl,(by simp[bc,hl]),?_⟩
   ·first|omega|(simp;omega)
   simp only[aY,hl,aa,ae,g0,g1,g2,g3]
   iterate 6 refine cI ?_
   refine⟨?_,?_,?_,?_⟩
   ·omega
   ·exact hS'
   ·exact hp'
   ·exact Xd
  have dj:decide ((j:Int)>(a:Int))=true:=bj;have w2:aW .i64 ((j:Int)-1)=((j-1:Nat):Int):=by rw[wrap_i64];omega
  obtain⟨F1,F2,H3,qf,tL,vQ,l1,l2,s1,s2,e3,o7,nS,mR⟩:=kZ R hS' hp' (i:=j) (j:=j-1) (by omega) (by omega);generalize JF.getD j 0=p at*;generalize JF.getD (j-1) 0=q at*;have c1:=eP (i:=j) (n:=n);have c2:=eP (i:=j-1) (n:=n);have hcp:=hc p q tL vQ;have pr:=R.pure;by_cases hz:cz p q<0
  rotate_left
  ·have dz:decide (cz p q<0)=false:=bh hz;simp only[↓aL,aM,aJ,↓reduceIte,aa,ah,ae,hl,g0,hD,g1,g3,g8,g9,dj,w1,w2,l1,l2,c1,c2,kg,hcp,pr,dz];refine bI ?_;refine⟨_,?_,i+1,JF,H,rfl,(by simp[bc,hl]),?_⟩
   ·first|omega|(simp;omega)
   simp only[aY,hl,aa,ae,g0,g1,g2,g3]
   iterate 6 refine cI ?_
   refine⟨?_,?_,?_,?_⟩
   ·omega
   ·exact hS'
   ·exact hp'
   ·exact Xd
  have dz:decide (cz p q<0)=true:=bj hz;simp only[↓aL,aM,aJ,↓reduceIte,aa,ah,ae,hl,g0,hD,g1,g3,g9,dj,w2,l1,l2,c1,c2,kg,hcp,pr,dz,s1,s2,e3];refine bI ?_;refine⟨_,?_,j-1,qf,H3,rfl,(by simp[bc,hl]),?_⟩
  ·first|omega|(simp;omega)
  simp only[aY,hl,aa,ae,g0,g1,g2,g3,g8]
  iterate 7 refine cI ?_
  refine⟨?_,?_,?_,?_,?_⟩
  ·omega
  ·omega
  ·exact o7
  ·exact mR
  ·exact Xd.trans nS
def C9{K u0 u1 u2 u3 u4 u5 u6 u7 u8 u9 vC sN sG sH:Nat}(I:lf K u0 u1 u2 u3 u4 u5 u6 u7 u8 u9 vC sN sG sH){b n kc g:Nat}{row:Nat->List AV}{mT:List Nat}{H0:Hp}{cz:Nat->Nat->Int}(R:qX K row)(hg:bF E g=false)(hc:∀p q,p<n->q<n->aP E g [.agg (row p),.agg (row q)]=some (.int .i64 (cz p q)))(wM:SR H0 b row mT)(sC:mT.Perm (aOR n))(hn:n<=1000000){lo hi first:Nat}(ik:lo<=hi:=by omega)(hf:first+hi<=n:=by omega):
  ∃r H',cV E u1 [.aI b 0 n K kc,.int .i64 (lo:Int),.int .i64 (hi:Int),.int .i64 (first:Int),.func g [] []] H0=some (r,H')/\pY b n row H0 r H':=by
 obtain⟨D,hD⟩:∃D,D=AV.aI b 0 n K kc:=⟨_,rfl⟩;have I0:=I;cases I
 all_goals
  have kg:=fun{dr st:Bool} {bl:List AV} {H:Hp} {k:AV->cF->Prop}=>jy (E:=E) (dr:=dr) (st:=st) (f:=g) (bl:=bl) (H:=H) (k:=k) hg
  have pr:=R.pure;refine gi5 (gd C) (by rw[C.fn];first|with_reducible exact ar8|with_reducible exact ar3) (by decide) ?_;intro ts hl g0 g1 g2 g3 g4;rw[<-hD]at g0
  first|unfold apJ|unfold apE
  simp only[↓aL,aM,aa,Tryz.f287,Tryz.f282,hl,g1];refine cC (fun k_ ts H=>∃r js H1,k_=hi-r+0/\ts.length=82/\gt ts 0=D/\gt ts 1=.int .i64 (lo:Int)/\gt ts 2=.int .i64 (hi:Int)/\gt ts 3=.int .i64 (first:Int)/\gt ts 4=.func g [] []/\gt ts 10=.int .i64 (r:Int)/\H=H1/\(r<=hi)/\(SR H1 b row js)/\(js.Perm (aOR n))/\(HW b H0 H1)) (hi-lo+0) ?_ ?_
  rotate_left
  ·refine⟨lo,mT,H0,(by first|omega|rfl|simp),(by simp[bc,hl]),?_⟩;simp only[aY,hl,aa,ae,g0,g1,g2,g3,g4]
   iterate 7 refine cI ?_
   refine⟨?_,?_,?_,?_⟩
   ·first|omega|trivial
   ·first|exact wM|trivial
   ·first|exact sC|trivial
   ·first|exact HW.refl _ _|trivial
  clear hl g0 g1 g2 g3 g4 ts;rintro k_ ts H ⟨r,js,H1,rfl,hl,g0,g1,g2,g3,g4,g10,rfl,hr,hS,hp,hW⟩;refine VS ?_;have w1:=wz (z:=2*(r:Int)) (m:=2*r);have w2:=wz (z:=((2*r:Nat):Int)+1) (m:=2*r+1);by_cases uK:2*r+1<hi
  rotate_left
  ·have d1:decide (((2*r+1:Nat):Int)≥(hi:Int))=true:=bj;simp only[↓aL,aM,↓reduceIte,aa,ae,hl,g2,g10,w1,w2,d1];exact⟨rfl,hW,js,hS,hp⟩
  have d1:decide (((2*r+1:Nat):Int)≥(hi:Int))=false:=bh (by omega);have w3:=wz (z:=((2*r+1:Nat):Int)+1) (m:=2*r+1+1);have w4:=wz (z:=(first:Int)+((2*r+1:Nat):Int)) (m:=first+(2*r+1));have w5:=wz (z:=((first+(2*r+1):Nat):Int)+1) (m:=first+(2*r+1)+1);by_cases h2:2*r+1+1<hi
  rotate_left
  ·have d2:decide (((2*r+1+1:Nat):Int)<(hi:Int))=false:=bh (by omega);obtain⟨Ur,la⟩:=FX R hS hp (i:=first+r) (by omega);have lb:=la;have ca:=la;have cb:=la;have da:=la;have Iq:=la;obtain⟨F1,F2,H3,qf,tL,vQ,l1,l2,s1,s2,e3,o7,nS,mR⟩:=kZ R hS hp (i:=first+r) (j:=first+(2*r+1)) (by omega) (by omega);have c1:=eP (i:=first+r) (n:=n);have c2:=eP (i:=first+(2*r+1)) (n:=n);have w6:=wz (z:=(first:Int)+(r:Int)) (m:=first+r);have w7:=wz (z:=(first:Int)+((2*r+1:Nat):Int)) (m:=first+(2*r+1));have iU:=hc _ _ tL vQ;generalize G6:cz (js.getD (first+r) 0) (js.getD (first+(2*r+1)) 0)=zz at iU;by_cases hz:zz<0
   ·have dz:decide (zz<0)=true:=bj hz;simp only[↓aL,aM,aJ,↓reduceIte,aa,ah,ae,hl,g0,hD,g2,g3,g4,g10,w1,w2,w3,w4,w6,d1,d2,da,l2,c1,c2,kg,iU,pr,dz,s1,s2,e3];refine bI ?_;refine⟨_,?_,2*r+1,qf,H3,rfl,(by simp[bc,hl]),?_⟩
    ·first|omega|(simp;omega)
    simp only[aY,hl,aa,ae,g0,g1,g2,g3,g4]
    iterate 7 refine cI ?_
    refine⟨?_,?_,?_,?_⟩
    ·omega
    ·exact o7
    ·exact mR
    ·exact hW.trans nS
   ·have dz:decide (zz<0)=false:=bh hz;simp only[↓aL,aM,aJ,↓reduceIte,aa,ah,ae,hl,g0,hD,g2,g3,g4,g10,w1,w2,w3,w4,w6,d1,d2,da,l2,c1,c2,kg,iU,pr,dz];exact⟨rfl,hW,js,hS,hp⟩
  have d2:decide (((2*r+1+1:Nat):Int)<(hi:Int))=true:=bj;obtain⟨Ur,la⟩:=FX R hS hp (i:=first+(2*r+1)) (by omega);obtain⟨hpb,lb⟩:=FX R hS hp (i:=first+(2*r+1)+1) (by omega);have ca:=eP (i:=first+(2*r+1)) (n:=n);have cb:=eP (i:=first+(2*r+1)+1) (n:=n);have Iq:=hc _ _ Ur hpb;generalize hyy:cz (js.getD (first+(2*r+1)) 0) (js.getD (first+(2*r+1)+1) 0)=yy at Iq;by_cases hza:yy<0
  ·have da:decide (yy<0)=true:=bj hza;obtain⟨F1,F2,H3,qf,tL,vQ,l1,l2,s1,s2,e3,o7,nS,mR⟩:=kZ R hS hp (i:=first+r) (j:=first+(2*r+1+1)) (by omega) (by omega);have c1:=eP (i:=first+r) (n:=n);have c2:=eP (i:=first+(2*r+1+1)) (n:=n);have w6:=wz (z:=(first:Int)+(r:Int)) (m:=first+r);have w7:=wz (z:=(first:Int)+((2*r+1+1:Nat):Int)) (m:=first+(2*r+1+1));have iU:=hc _ _ tL vQ;generalize G6:cz (js.getD (first+r) 0) (js.getD (first+(2*r+1+1)) 0)=zz at iU;by_cases hz:zz<0
   ·have dz:decide (zz<0)=true:=bj hz;simp only[↓aL,aM,aJ,↓reduceIte,aa,ah,ae,hl,g0,hD,g2,g3,g4,g10,w1,w2,w3,w4,w5,w6,w7,d1,d2,da,la,lb,ca,cb,l1,l2,c1,c2,kg,Iq,iU,pr,dz,s1,s2,e3];refine bI ?_;refine⟨_,?_,2*r+1+1,qf,H3,rfl,(by simp[bc,hl]),?_⟩
    ·first|omega|(simp;omega)
    simp only[aY,hl,aa,ae,g0,g1,g2,g3,g4]
    iterate 7 refine cI ?_
    refine⟨?_,?_,?_,?_⟩
    ·omega
    ·exact o7
    ·exact mR
    ·exact hW.trans nS
   ·have dz:decide (zz<0)=false:=bh hz;simp only[↓aL,aM,aJ,↓reduceIte,aa,ah,ae,hl,g0,hD,g2,g3,g4,g10,w1,w2,w3,w4,w5,w6,w7,d1,d2,da,la,lb,ca,cb,l1,l2,c1,c2,kg,Iq,iU,pr,dz];exact⟨rfl,hW,js,hS,hp⟩
  ·have da:decide (yy<0)=false:=bh hza;obtain⟨F1,F2,H3,qf,tL,vQ,l1,l2,s1,s2,e3,o7,nS,mR⟩:=kZ R hS hp (i:=first+r) (j:=first+(2*r+1)) (by omega) (by omega);have c1:=eP (i:=first+r) (n:=n);have c2:=eP (i:=first+(2*r+1)) (n:=n);have w6:=wz (z:=(first:Int)+(r:Int)) (m:=first+r);have w7:=wz (z:=(first:Int)+((2*r+1:Nat):Int)) (m:=first+(2*r+1));have iU:=hc _ _ tL vQ;generalize G6:cz (js.getD (first+r) 0) (js.getD (first+(2*r+1)) 0)=zz at iU;by_cases hz:zz<0
   ·have dz:decide (zz<0)=true:=bj hz;simp only[↓aL,aM,aJ,↓reduceIte,aa,ah,ae,hl,g0,hD,g2,g3,g4,g10,w1,w2,w3,w4,w5,w6,d1,d2,da,la,lb,ca,cb,l1,c1,kg,Iq,iU,pr,dz,s1,s2,e3];refine bI ?_;refine⟨_,?_,2*r+1,qf,H3,rfl,(by simp[bc,hl]),?_⟩
    ·first|omega|(simp;omega)
    simp only[aY,hl,aa,ae,g0,g1,g2,g3,g4]
    iterate 7 refine cI ?_
    refine⟨?_,?_,?_,?_⟩
    ·omega
    ·exact o7
    ·exact mR
    ·exact hW.trans nS
   ·have dz:decide (zz<0)=false:=bh hz;simp only[↓aL,aM,aJ,↓reduceIte,aa,ah,ae,hl,g0,hD,g2,g3,g4,g10,w1,w2,w3,w4,w5,w6,d1,d2,da,la,lb,ca,cb,l1,c1,kg,Iq,iU,pr,dz];exact⟨rfl,hW,js,hS,hp⟩
def Nd{K u0 u1 u2 u3 u4 u5 u6 u7 u8 u9 vC sN sG sH:Nat}(I:lf K u0 u1 u2 u3 u4 u5 u6 u7 u8 u9 vC sN sG sH){b n kc g:Nat}{row:Nat->List AV}{mT:List Nat}{H0:Hp}{cz:Nat->Nat->Int}(R:qX K row)(hg:bF E g=false)(hc:∀p q,p<n->q<n->aP E g [.agg (row p),.agg (row q)]=some (.int .i64 (cz p q)))(wM:SR H0 b row mT)(sC:mT.Perm (aOR n))(hn:n<=1000000){a c:Nat}(CV:a<c)(nh:c<=n):
  ∃r H',cV E u2 [.aI b 0 n K kc,.int .i64 (a:Int),.int .i64 (c:Int),.func g [] []] H0=some (r,H')/\pY b n row H0 r H':=by
 obtain⟨D,hD⟩:∃D,D=AV.aI b 0 n K kc:=⟨_,rfl⟩;have I0:=I;cases I
 all_goals
  obtain⟨hi,rfl⟩:∃hi,c=a+hi:=⟨c-a,by omega⟩;have w0:=wz (z:=((a+hi:Nat):Int)-(a:Int)) (m:=hi);have w1:=wz (z:=(hi:Int)-1) (m:=hi-1);have q1:∀{cc:Bool} {t:Nat},cp E cc .quo t (.int .i64 ((hi-1:Nat):Int)) (.int .i64 2)=some (.int .i64 (((hi-1)/2:Nat):Int)):=fun{cc t}=>aeo (d:=2)
  refine gi4 (gd C) (by rw[C.fn];first|with_reducible exact arV|with_reducible exact arO) (by decide) ?_;intro ts hl g0 g1 g2 g3;rw[<-hD]at g0
  first|unfold apw|unfold apo
  simp only[↓aL,aM,aa,ae,Tryz.f252,Tryz.f243,hl,g1,g2,w0,w1,q1];refine cC (fun k_ ts H=>∃m js H1,k_=m+1/\ts.length=60/\gt ts 0=D/\gt ts 3=.func g [] []/\gt ts 8=.int .i64 (a:Int)/\gt ts 9=.int .i64 0/\gt ts 10=.int .i64 (hi:Int)/\gt ts 11=.int .i64 ((m:Int)-1)/\H=H1/\(m<=hi)/\(SR H1 b row js)/\(js.Perm (aOR n))/\(HW b H0 H1)) ((hi-1)/2+1+1) ?_ ?_
  rotate_left
  ·refine⟨(hi-1)/2+1,mT,H0,(by first|omega|rfl|simp),(by simp[bc,hl]),?_⟩;simp only[aY,hl,aa,ae,g0,g3]
   iterate 7 refine cI ?_
   refine⟨?_,?_,?_,?_⟩
   ·first|omega|trivial
   ·first|exact wM|trivial
   ·first|exact sC|trivial
   ·first|exact HW.refl _ _|trivial
  clear hl g0 g1 g2 g3 ts;rintro k_ ts H ⟨m,js,H1,rfl,hl,g0,g3,g8,g9,g10,g11,rfl,hm,hS,hp,hW⟩;refine VS ?_;by_cases hd:1<=m
  ·have d1:decide ((m:Int)-1≥0)=true:=bj;obtain⟨r,H2,hr,rfl,Bd,JF,zK,G2⟩:=C9 (E:=E) (kc:=kc) I0 R hg hc hS hp hn (lo:=m-1) (hi:=hi) (first:=a);rw[show(((m-1:Nat):Int))=(m:Int)-1 by omega]at hr;have w2:aW .i64 ((m:Int)-1-1)=((m-1:Nat):Int)-1:=by rw[wrap_i64];omega
   simp only[↓aL,aM,↓aS,aJ,aa,ae,hl,g0,hD,g3,g8,g10,g11,d1,hr,w2];refine bI ?_;refine⟨_,?_,m-1,JF,H2,rfl,(by simp[bc,hl]),?_⟩
   ·first|omega|(simp;omega)
   simp only[aY,hl,aa,ae,g0,g3,g8,g9,g10]
   iterate 7 refine cI ?_
   refine⟨?_,?_,?_,?_⟩
   ·omega
   ·exact zK
   ·exact G2
   ·exact hW.trans Bd
  have d1:decide ((m:Int)-1≥0)=false:=bh (by omega);simp only[↓aL,aM,↓reduceIte,aa,ae,hl,g10,g11,d1,w1];refine cC (fun k_ ts H=>∃m2 js H1,k_=m2+1/\ts.length=60/\gt ts 0=D/\gt ts 3=.func g [] []/\gt ts 8=.int .i64 (a:Int)/\gt ts 9=.int .i64 0/\gt ts 12=.int .i64 ((m2:Int)-1)/\H=H1/\(m2<=hi)/\(SR H1 b row js)/\(js.Perm (aOR n))/\(HW b H0 H1)) (hi+1) ?_ ?_
  rotate_left
  ·refine⟨hi,js,H,(by first|omega|rfl|simp),(by simp[bc,hl]),?_⟩;simp only[aY,hl,aa,ae,g0,g3,g8,g9]
   iterate 6 refine cI ?_
   refine⟨?_,?_,?_,?_⟩
   ·first|omega|trivial
   ·first|exact hS|trivial
   ·first|exact hp|trivial
   ·first|exact hW|trivial
  clear hl g0 g3 g8 g9 g10 g11 ts;rintro k_ ts H ⟨m2,js,H1,rfl,hl,g0,g3,g8,g9,g12,rfl,Eb,hS,hp,hW⟩;refine VS ?_;by_cases lN:1<=m2
  ·have d2:decide ((m2:Int)-1≥0)=true:=bj;obtain⟨F1,F2,H3,qf,tL,vQ,l1,l2,s1,s2,e3,o7,nS,mR⟩:=kZ R hS hp (i:=a) (j:=a+(m2-1)) (by omega) (by omega);have c1:=eP (i:=a) (n:=n);have c2:=eP (i:=a+(m2-1)) (n:=n);have w3:=wz (z:=(a:Int)+((m2:Int)-1)) (m:=a+(m2-1));obtain⟨r,H4,hr,rfl,hW4,js4,hS4,G3⟩:=C9 (E:=E) (kc:=kc) I0 R hg hc o7 mR hn (lo:=0) (hi:=m2-1) (first:=a);rw[show(((m2-1:Nat):Int))=(m2:Int)-1 by omega,show(((0:Nat):Int))=0 from rfl]at hr;have w2:aW .i64 ((m2:Int)-1-1)=((m2-1:Nat):Int)-1:=by rw[wrap_i64];omega
   simp only[↓aL,aM,↓aS,aJ,↓reduceIte,aa,ah,ae,hl,g0,hD,g3,g8,g9,g12,d2,hr,w2,w3,c1,c2,l1,l2,s1,s2,e3];refine bI ?_;refine⟨_,?_,m2-1,js4,H4,rfl,(by simp[bc,hl]),?_⟩
   ·first|omega|(simp;omega)
   simp only[aY,hl,aa,ae,g0,g3,g8,g9]
   iterate 6 refine cI ?_
   refine⟨?_,?_,?_,?_⟩
   ·omega
   ·exact hS4
   ·exact G3
   ·exact(hW.trans nS).trans hW4
  have d2:decide ((m2:Int)-1≥0)=false:=bh (by omega);simp only[↓aL,aM,↓reduceIte,aa,hl,g12,d2];exact⟨rfl,hW,js,hS,hp⟩
def SO{K u0 u1 u2 u3 u4 u5 u6 u7 u8 u9 vC sN sG sH:Nat}(I:lf K u0 u1 u2 u3 u4 u5 u6 u7 u8 u9 vC sN sG sH){b n kc g:Nat}{row:Nat->List AV}{mT:List Nat}{H0:Hp}{cz:Nat->Nat->Int}(R:qX K row)(hg:bF E g=false)(hc:∀p q,p<n->q<n->aP E g [.agg (row p),.agg (row q)]=some (.int .i64 (cz p q)))(wM:SR H0 b row mT)(sC:mT.Perm (aOR n))(hn:n<=1000000){a c:Nat}(CV:a<c)(nh:c<=n):
  ∃r H',cV E u3 [.aI b 0 n K kc,.int .i64 (a:Int),.int .i64 (c:Int),.func g [] []] H0=some (r,H')/\pY b n row H0 r H':=by
 obtain⟨D,hD⟩:∃D,D=AV.aI b 0 n K kc:=⟨_,rfl⟩;have I0:=I;cases I
 all_goals
  have w0:=wz (z:=(c:Int)-1) (m:=c-1);refine gi4 (gd C) (by rw[C.fn];first|with_reducible exact arY|with_reducible exact arR) (by decide) ?_;intro ts hl g0 g1 g2 g3;rw[<-hD]at g0
  first|unfold apz|unfold aps
  simp only[↓aL,aM,aa,ae,Tryz.f255,Tryz.f246,hl,g1,g2,w0];refine cC (fun k_ ts H=>∃i j js H1,k_=j+n-i/\ts.length=34/\gt ts 0=D/\gt ts 8=.int .i64 (i:Int)/\gt ts 9=.int .i64 (j:Int)/\H=H1/\(i<=n)/\(j<n)/\(SR H1 b row js)/\(js.Perm (aOR n))/\(HW b H0 H1)) (c-1+n-a) ?_ ?_
  rotate_left
  ·refine⟨a,c-1,mT,H0,(by first|omega|rfl|simp),(by simp[bc,hl]),?_⟩;simp only[aY,hl,aa,ae,g0]
   iterate 4 refine cI ?_
   refine⟨?_,?_,?_,?_,?_⟩
   ·first|omega|trivial
   ·first|omega|trivial
   ·first|exact wM|trivial
   ·first|exact sC|trivial
   ·first|exact HW.refl _ _|trivial
  clear hl g0 g1 g2 g3 ts;rintro k_ ts H ⟨i,j,js,H1,rfl,hl,g0,g8,g9,rfl,hi,hj,hS,hp,hW⟩;refine VS ?_;by_cases hd:i<j
  rotate_left
  ·have d1:decide ((i:Int)<(j:Int))=false:=bh (by omega);simp only[↓aL,aM,↓reduceIte,aa,ae,hl,g8,g9,d1];exact⟨rfl,hW,js,hS,hp⟩
  have d1:decide ((i:Int)<(j:Int))=true:=bj;obtain⟨F1,F2,H3,qf,tL,vQ,l1,l2,s1,s2,e3,o7,nS,mR⟩:=kZ R hS hp (i:=i) (j:=j) (by omega) (by omega);have c1:=eP (i:=i) (n:=n);have c2:=eP (i:=j) (n:=n);have w1:=wz (z:=(i:Int)+1) (m:=i+1);have w2:=wz (z:=(j:Int)-1) (m:=j-1);simp only[↓aL,aM,aJ,↓reduceIte,aa,ah,ae,hl,g0,hD,g8,g9,d1,w1,w2,c1,c2,l1,l2,s1,s2,e3];refine bI ?_;refine⟨_,?_,i+1,j-1,qf,H3,rfl,(by simp[bc,hl]),?_⟩
  ·first|omega|(simp;omega)
  simp only[aY,hl,aa,ae,g0]
  iterate 4 refine cI ?_
  refine⟨?_,?_,?_,?_,?_⟩
  ·omega
  ·omega
  ·exact o7
  ·exact mR
  ·exact hW.trans nS
def FI{K u0 u1 u2 u3 u4 u5 u6 u7 u8 u9 vC sN sG sH:Nat}(I:lf K u0 u1 u2 u3 u4 u5 u6 u7 u8 u9 vC sN sG sH){b n kc g:Nat}{row:Nat->List AV}{mT:List Nat}{H0:Hp}{cz:Nat->Nat->Int}(R:qX K row)(hg:bF E g=false)(hc:∀p q,p<n->q<n->aP E g [.agg (row p),.agg (row q)]=some (.int .i64 (cz p q)))(wM:SR H0 b row mT)(sC:mT.Perm (aOR n))(hn:n<=1000000){a c:Nat}(CV:a<c)(nh:c<=n):
  ∃r H',cV E u4 [.aI b 0 n K kc,.int .i64 (a:Int),.int .i64 (c:Int),.func g [] []] H0=some (r,H')/\∃bb,r=.bool bb/\pY b n row H0 (.tuple []) H':=by
 obtain⟨D,hD⟩:∃D,D=AV.aI b 0 n K kc:=⟨_,rfl⟩;have I0:=I;cases I
 all_goals
  have kg:=fun{dr st:Bool} {bl:List AV} {H:Hp} {k:AV->cF->Prop}=>jy (E:=E) (dr:=dr) (st:=st) (f:=g) (bl:=bl) (H:=H) (k:=k) hg
  have pr:=R.pure;have w0:=wz (z:=(a:Int)+1) (m:=a+1);refine gi4 (gd C) (by rw[C.fn];first|with_reducible exact arZ|with_reducible exact arS) (by decide) ?_;intro ts hl g0 g1 g2 g3;rw[<-hD]at g0
  first|unfold apA|unfold apt
  simp only[↓aL,aM,aa,ae,Tryz.f256,Tryz.f247,hl,g1,w0];refine cC (fun k_ ts H=>∃jj:Nat,∃i:Nat,∃js,∃H1,k_=(6-jj:Nat)/\ts.length=141/\gt ts 0=D/\gt ts 1=.int .i64 (a:Int)/\gt ts 2=.int .i64 (c:Int)/\gt ts 3=.func g [] []/\gt ts 9=.int .i64 (i:Int)/\gt ts 10=.int .i64 (jj:Int)/\H=H1/\(jj<=5)/\(a+1<=i)/\(i<=c)/\(SR H1 b row js)/\(js.Perm (aOR n))/\(HW b H0 H1)) (6) ?_ ?_
  rotate_left
  ·refine⟨0,a+1,mT,H0,(by first|omega|rfl|simp),(by simp[bc,hl]),?_⟩;simp only[aY,hl,aa,ae,g0,g1,g2,g3]
   iterate 7 refine cI ?_
   refine⟨?_,?_,?_,?_,?_,?_⟩
   ·first|omega|trivial
   ·first|omega|trivial
   ·first|omega|trivial
   ·first|exact wM|trivial
   ·first|exact sC|trivial
   ·first|exact HW.refl _ _|trivial
  clear hl g0 g1 g2 g3 ts;rintro k_ ts H ⟨jj,i,js,H1,rfl,hl,g0,g1,g2,g3,g9,g10,rfl,hj,hi,hi2,hS,hp,hW⟩;refine VS ?_;by_cases hd:jj<5
  rotate_left
  ·have d1:decide ((jj:Int)<5)=false:=bh (by omega);simp only[↓aL,aM,↓reduceIte,aa,hl,g10,d1];exact⟨_,rfl,rfl,hW,js,hS,hp⟩
  have d1:decide ((jj:Int)<5)=true:=bj;have w5:=wz (z:=(jj:Int)+1) (m:=jj+1);simp only[↓aL,aM,aa,hl,g10,d1];refine cC (fun k_ ts H=>∃i:Nat,∃js,∃H1,k_=(c+1-i:Nat)/\ts.length=141/\gt ts 0=D/\gt ts 1=.int .i64 (a:Int)/\gt ts 2=.int .i64 (c:Int)/\gt ts 3=.func g [] []/\gt ts 9=.int .i64 (i:Int)/\gt ts 10=.int .i64 (jj:Int)/\H=H1/\(a+1<=i)/\(i<=c)/\(SR H1 b row js)/\(js.Perm (aOR n))/\(HW b H0 H1)) (c+1-i) ?_ ?_
  rotate_left
  ·refine⟨i,js,H,(by first|omega|rfl|simp),(by simp[bc,hl]),?_⟩;simp only[aY,ae,g0,g1,g2,g3,g9,g10]
   iterate 7 refine cI ?_
   refine⟨?_,?_,?_,?_,?_⟩
   ·first|omega|trivial
   ·first|omega|trivial
   ·first|exact hS|trivial
   ·first|exact hp|trivial
   ·first|exact hW|trivial
  clear hl g0 g1 g2 g3 g9 g10 ts;rintro k_ ts H ⟨i,js,H1,rfl,hl,g0,g1,g2,g3,g9,g10,rfl,hi,hi2,hS,hp,hW⟩;refine VS ?_;by_cases FD:i<c
  rotate_left
  ·obtain rfl:i=c:=by omega
   have d2:decide ((i:Int)<(i:Int))=false:=bh (by omega);have b2:((i:Int)==(i:Int))=true:=by simp
   simp only[↓aL,aM,aJ,↓reduceIte,aa,ah,ae,hl,g2,g9,d2];exact⟨_,rfl,rfl,hW,js,hS,hp⟩
  have d2:decide ((i:Int)<(c:Int))=true:=bj;have b2:((i:Int)==(c:Int))=false:=by simp;omega
  have w2:=wz (z:=(i:Int)-1) (m:=i-1);have w3:=wz (z:=(i:Int)+1) (m:=i+1);have w4:=wz (z:=(c:Int)-(a:Int)) (m:=c-a);have w6:=wz (z:=(i:Int)-(a:Int)) (m:=i-a);obtain⟨F1,F2,H3,qf,tL,vQ,l1,l2,s1,s2,e3,o7,nS,mR⟩:=kZ R hS hp (i:=i) (j:=i-1) (by omega) (by omega);have c1:=eP (i:=i) (n:=n);have c2:=eP (i:=i-1) (n:=n);have iU:=hc _ _ tL vQ;generalize G6:cz (js.getD i 0) (js.getD (i-1) 0)=zz at iU;by_cases hz:zz<0
  rotate_left
  ·have dz:decide (zz<0)=false:=bh hz;simp only[↓aL,aM,aJ,↓reduceIte,aa,ah,ae,hl,g0,hD,g2,g3,g9,d2,w2,w3,c1,c2,l1,l2,kg,iU,pr,dz];refine bI ?_;refine⟨_,?_,i+1,js,H,rfl,(by simp[bc,hl]),?_⟩
   ·first|omega|(simp;omega)
   simp only[aY,hl,aa,ae,g0,g1,g2,g3,g10]
   iterate 7 refine cI ?_
   refine⟨?_,?_,?_,?_,?_⟩
   ·omega
   ·omega
   ·exact hS
   ·exact hp
   ·exact hW
  have dz:decide (zz<0)=true:=bj hz;by_cases h50:c-a<50
  ·have d5:decide (((c-a:Nat):Int)<50)=true:=bj;simp only[↓aL,aM,aJ,↓reduceIte,aa,ah,ae,hl,g0,hD,g1,g2,g3,g9,d2,b2,w2,w4,d5,c1,c2,l1,l2,kg,iU,pr,dz];exact⟨_,rfl,rfl,hW,js,hS,hp⟩
  have d5:decide (((c-a:Nat):Int)<50)=false:=bh (by omega);by_cases sK:2<=i-a
  rotate_left
  ·have d6:decide (((i-a:Nat):Int)≥2)=false:=bh (by omega);have w8:=wz (z:=(c:Int)-(i:Int)) (m:=c-i);by_cases h3:2<=c-i
   rotate_left
   ·have d8:decide (((c-i:Nat):Int)≥2)=false:=bh (by omega);simp only[↓aL,aM,aJ,↓reduceIte,aa,ah,ae,hl,g0,hD,g1,g2,g3,g9,g10,w5,w8,d8,d2,b2,w2,w4,w6,d5,d6,c1,c2,l1,l2,kg,iU,pr,dz,s1,s2,e3];refine bI ?_;refine⟨_,?_,jj+1,i,qf,H3,rfl,(by simp[bc,hl]),?_⟩
    ·first|omega|(simp;omega)
    simp only[aY,hl,aa,ae,g0,g1,g2,g3,g9]
    iterate 7 refine cI ?_
    refine⟨?_,?_,?_,?_,?_,?_⟩
    ·omega
    ·omega
    ·omega
    ·exact o7
    ·exact mR
    ·exact(hW.trans nS)
   have d8:decide (((c-i:Nat):Int)≥2)=true:=bj;have w9:=wz (z:=(i:Int)+1) (m:=i+1);simp only[↓aL,aM,aJ,↓reduceIte,aa,ah,ae,hl,g0,hD,g1,g2,g3,g9,w8,w9,d8,d2,b2,w2,w4,w6,d5,d6,c1,c2,l1,l2,kg,iU,pr,dz,s1,s2,e3];refine cC (fun k_ ts H=>∃y:Nat,∃js,∃H1,k_=(c-y:Nat)/\ts.length=141/\gt ts 0=D/\gt ts 1=.int .i64 (a:Int)/\gt ts 2=.int .i64 (c:Int)/\gt ts 3=.func g [] []/\gt ts 9=.int .i64 (i:Int)/\gt ts 10=.int .i64 (jj:Int)/\gt ts 12=.int .i64 (y:Int)/\H=H1/\(i+1<=y)/\(SR H1 b row js)/\(js.Perm (aOR n))/\(HW b H0 H1)) (c-(i+1)) ?_ ?_
   rotate_left
   ·refine⟨i+1,qf,H3,(by first|omega|rfl|simp),(by simp[bc,hl]),?_⟩;simp only[aY,hl,aa,ae,g0,g1,g2,g3,g9,g10]
    iterate 8 refine cI ?_
    refine⟨?_,?_,?_,?_⟩
    ·first|omega|trivial
    ·first|exact o7|trivial
    ·first|exact mR|trivial
    ·first|exact(hW.trans nS)|trivial
   clear hl g0 g1 g2 g3 g9 g10 ts;rintro k_ ts H ⟨y,js,H1,rfl,hl,g0,g1,g2,g3,g9,g10,g12,rfl,hy,hS,hp,hW⟩;refine VS ?_;by_cases hy2:y<c
   rotate_left
   ·have d9:decide ((y:Int)<(c:Int))=false:=bh (by omega);simp only[↓aL,aM,↓reduceIte,aa,ae,hl,g2,g10,g12,w5,d9];refine bI ?_;refine⟨_,?_,jj+1,i,js,H,rfl,(by simp[bc,hl]),?_⟩
    ·first|omega|(simp;omega)
    simp only[aY,hl,aa,ae,g0,g1,g2,g3,g9]
    iterate 7 refine cI ?_
    refine⟨?_,?_,?_,?_,?_,?_⟩
    ·omega
    ·omega
    ·omega
    ·exact hS
    ·exact hp
    ·exact hW
   have d9:decide ((y:Int)<(c:Int))=true:=bj;have w10:=wz (z:=(y:Int)-1) (m:=y-1);have w11:=wz (z:=(y:Int)+1) (m:=y+1);obtain⟨F1,F2,H3,qf,tL,vQ,l1,l2,s1,s2,e3,o7,nS,mR⟩:=kZ R hS hp (i:=y) (j:=y-1) (by omega) (by omega);have c1:=eP (i:=y) (n:=n);have c2:=eP (i:=y-1) (n:=n);have iU:=hc _ _ tL vQ;generalize G6:cz (js.getD y 0) (js.getD (y-1) 0)=zz at iU;by_cases hz:zz<0
   ·have dz:decide (zz<0)=true:=bj hz;simp only[↓aL,aM,aJ,↓reduceIte,aa,ah,ae,hl,g0,hD,g2,g3,g12,d9,w10,w11,c1,c2,l1,l2,kg,iU,pr,dz,s1,s2,e3];refine bI ?_;refine⟨_,?_,y+1,qf,H3,rfl,(by simp[bc,hl]),?_⟩
    ·first|omega|(simp;omega)
    simp only[aY,hl,aa,ae,g0,g1,g2,g3,g9,g10]
    iterate 8 refine cI ?_
    refine⟨?_,?_,?_,?_⟩
    ·omega
    ·exact o7
    ·exact mR
    ·exact hW.trans nS
   ·have dz:decide (zz<0)=false:=bh hz;simp only[↓aL,aM,aJ,↓reduceIte,aa,ah,ae,hl,g0,hD,g2,g3,g10,g12,w5,d9,w10,c1,c2,l1,l2,kg,iU,pr,dz];refine bI ?_;refine⟨_,?_,jj+1,i,js,H,rfl,(by simp[bc,hl]),?_⟩
    ·first|omega|(simp;omega)
    simp only[aY,hl,aa,ae,g0,g1,g2,g3,g9]
    iterate 7 refine cI ?_
    refine⟨?_,?_,?_,?_,?_,?_⟩
    ·omega
    ·omega
    ·omega
    ·exact hS
    ·exact hp
    ·exact hW
  have d6:decide (((i-a:Nat):Int)≥2)=true:=bj;simp only[↓aL,aM,aJ,↓reduceIte,aa,ah,ae,hl,g0,hD,g1,g2,g3,g9,d2,b2,w2,w4,w6,d5,d6,c1,c2,l1,l2,kg,iU,pr,dz,s1,s2,e3];refine cC (fun k_ ts H=>∃x:Nat,∃js,∃H1,k_=x+1/\ts.length=141/\gt ts 0=D/\gt ts 1=.int .i64 (a:Int)/\gt ts 2=.int .i64 (c:Int)/\gt ts 3=.func g [] []/\gt ts 9=.int .i64 (i:Int)/\gt ts 10=.int .i64 (jj:Int)/\gt ts 11=.int .i64 (x:Int)/\H=H1/\(x<i)/\(SR H1 b row js)/\(js.Perm (aOR n))/\(HW b H0 H1)) (i-1+1) ?_ ?_
  rotate_left
  ·refine⟨i-1,qf,H3,(by first|omega|rfl|simp),(by simp[bc,hl]),?_⟩;simp only[aY,hl,aa,ae,g0,g1,g2,g3,g9,g10]
   iterate 8 refine cI ?_
   refine⟨?_,?_,?_,?_⟩
   ·first|omega|trivial
   ·first|exact o7|trivial
   ·first|exact mR|trivial
   ·first|exact hW.trans nS|trivial
  clear hl g0 g1 g2 g3 g9 g10 ts;rintro k_ ts H ⟨x,js,H1,rfl,hl,g0,g1,g2,g3,g9,g10,g11,rfl,hx,hS,hp,hW⟩;refine VS ?_;by_cases hx1:1<=x
  rotate_left
  ·have d7:decide ((x:Int)≥1)=false:=bh (by omega);have w8:=wz (z:=(c:Int)-(i:Int)) (m:=c-i);by_cases h3:2<=c-i
   rotate_left
   ·have d8:decide (((c-i:Nat):Int)≥2)=false:=bh (by omega);simp only[↓aL,aM,↓reduceIte,aa,ae,hl,g2,g9,g10,w5,w8,d8,g11,d7];refine bI ?_;refine⟨_,?_,jj+1,i,js,H,rfl,(by simp[bc,hl]),?_⟩
    ·first|omega|(simp;omega)
    simp only[aY,hl,aa,ae,g0,g1,g2,g3,g9]
    iterate 7 refine cI ?_
    refine⟨?_,?_,?_,?_,?_,?_⟩
    ·omega
    ·omega
    ·omega
    ·exact hS
    ·exact hp
    ·exact hW
   have d8:decide (((c-i:Nat):Int)≥2)=true:=bj;have w9:=wz (z:=(i:Int)+1) (m:=i+1);simp only[↓aL,aM,↓reduceIte,aa,ae,hl,g2,g9,w8,w9,d8,g11,d7];refine cC (fun k_ ts H=>∃y:Nat,∃js,∃H1,k_=(c-y:Nat)/\ts.length=141/\gt ts 0=D/\gt ts 1=.int .i64 (a:Int)/\gt ts 2=.int .i64 (c:Int)/\gt ts 3=.func g [] []/\gt ts 9=.int .i64 (i:Int)/\gt ts 10=.int .i64 (jj:Int)/\gt ts 12=.int .i64 (y:Int)/\H=H1/\(i+1<=y)/\(SR H1 b row js)/\(js.Perm (aOR n))/\(HW b H0 H1)) (c-(i+1)) ?_ ?_
   rotate_left
   ·refine⟨i+1,js,H,(by first|omega|rfl|simp),(by simp[bc,hl]),?_⟩;simp only[aY,hl,aa,ae,g0,g1,g2,g3,g9,g10]
    iterate 8 refine cI ?_
    refine⟨?_,?_,?_,?_⟩
    ·first|omega|trivial
    ·first|exact hS|trivial
    ·first|exact hp|trivial
    ·first|exact hW|trivial
   clear hl g0 g1 g2 g3 g9 g10 g11 ts;rintro k_ ts H ⟨y,js,H1,rfl,hl,g0,g1,g2,g3,g9,g10,g12,rfl,hy,hS,hp,hW⟩;refine VS ?_;by_cases hy2:y<c
   rotate_left
   ·have d9:decide ((y:Int)<(c:Int))=false:=bh (by omega);simp only[↓aL,aM,↓reduceIte,aa,ae,hl,g2,g10,g12,w5,d9];refine bI ?_;refine⟨_,?_,jj+1,i,js,H,rfl,(by simp[bc,hl]),?_⟩
    ·first|omega|(simp;omega)
    simp only[aY,hl,aa,ae,g0,g1,g2,g3,g9]
    iterate 7 refine cI ?_
    refine⟨?_,?_,?_,?_,?_,?_⟩
    ·omega
    ·omega
    ·omega
    ·exact hS
    ·exact hp
    ·exact hW
   have d9:decide ((y:Int)<(c:Int))=true:=bj;have w10:=wz (z:=(y:Int)-1) (m:=y-1);have w11:=wz (z:=(y:Int)+1) (m:=y+1);obtain⟨F1,F2,H3,qf,tL,vQ,l1,l2,s1,s2,e3,o7,nS,mR⟩:=kZ R hS hp (i:=y) (j:=y-1) (by omega) (by omega);have c1:=eP (i:=y) (n:=n);have c2:=eP (i:=y-1) (n:=n);have iU:=hc _ _ tL vQ;generalize G6:cz (js.getD y 0) (js.getD (y-1) 0)=zz at iU;by_cases hz:zz<0
   ·have dz:decide (zz<0)=true:=bj hz;simp only[↓aL,aM,aJ,↓reduceIte,aa,ah,ae,hl,g0,hD,g2,g3,g12,d9,w10,w11,c1,c2,l1,l2,kg,iU,pr,dz,s1,s2,e3];refine bI ?_;refine⟨_,?_,y+1,qf,H3,rfl,(by simp[bc,hl]),?_⟩
    ·first|omega|(simp;omega)
    simp only[aY,hl,aa,ae,g0,g1,g2,g3,g9,g10]
    iterate 8 refine cI ?_
    refine⟨?_,?_,?_,?_⟩
    ·omega
    ·exact o7
    ·exact mR
    ·exact hW.trans nS
   ·have dz:decide (zz<0)=false:=bh hz;simp only[↓aL,aM,aJ,↓reduceIte,aa,ah,ae,hl,g0,hD,g2,g3,g10,g12,w5,d9,w10,c1,c2,l1,l2,kg,iU,pr,dz];refine bI ?_;refine⟨_,?_,jj+1,i,js,H,rfl,(by simp[bc,hl]),?_⟩
    ·first|omega|(simp;omega)
    simp only[aY,hl,aa,ae,g0,g1,g2,g3,g9]
    iterate 7 refine cI ?_
    refine⟨?_,?_,?_,?_,?_,?_⟩
    ·omega
    ·omega
    ·omega
    ·exact hS
    ·exact hp
    ·exact hW
  have d7:decide ((x:Int)≥1)=true:=bj;have w12:=wz (z:=(x:Int)-1) (m:=x-1);obtain⟨F1,F2,H3,qf,tL,vQ,l1,l2,s1,s2,e3,o7,nS,mR⟩:=kZ R hS hp (i:=x) (j:=x-1) (by omega) (by omega);have c1:=eP (i:=x) (n:=n);have c2:=eP (i:=x-1) (n:=n);have iU:=hc _ _ tL vQ;generalize hyy:cz (js.getD x 0) (js.getD (x-1) 0)=yy at iU;by_cases hz:yy<0
  rotate_left
  ·have dz:decide (yy<0)=false:=bh hz;have w8:=wz (z:=(c:Int)-(i:Int)) (m:=c-i);by_cases h3:2<=c-i
   rotate_left
   ·have d8:decide (((c-i:Nat):Int)≥2)=false:=bh (by omega);simp only[↓aL,aM,aJ,↓reduceIte,aa,ah,ae,hl,g0,hD,g2,g3,g9,g10,w5,w8,d8,g11,d7,w12,c1,c2,l1,l2,kg,iU,pr,dz];refine bI ?_;refine⟨_,?_,jj+1,i,js,H,rfl,(by simp[bc,hl]),?_⟩
    ·first|omega|(simp;omega)
    simp only[aY,hl,aa,ae,g0,g1,g2,g3,g9]
    iterate 7 refine cI ?_
    refine⟨?_,?_,?_,?_,?_,?_⟩
    ·omega
    ·omega
    ·omega
    ·exact hS
    ·exact hp
    ·exact hW
   have d8:decide (((c-i:Nat):Int)≥2)=true:=bj;have w9:=wz (z:=(i:Int)+1) (m:=i+1);simp only[↓aL,aM,aJ,↓reduceIte,aa,ah,ae,hl,g0,hD,g2,g3,g9,w8,w9,d8,g11,d7,w12,c1,c2,l1,l2,kg,iU,pr,dz];refine cC (fun k_ ts H=>∃y:Nat,∃js,∃H1,k_=(c-y:Nat)/\ts.length=141/\gt ts 0=D/\gt ts 1=.int .i64 (a:Int)/\gt ts 2=.int .i64 (c:Int)/\gt ts 3=.func g [] []/\gt ts 9=.int .i64 (i:Int)/\gt ts 10=.int .i64 (jj:Int)/\gt ts 12=.int .i64 (y:Int)/\H=H1/\(i+1<=y)/\(SR H1 b row js)/\(js.Perm (aOR n))/\(HW b H0 H1)) (c-(i+1)) ?_ ?_
   rotate_left
   ·refine⟨i+1,js,H,(by first|omega|rfl|simp),(by simp[bc,hl]),?_⟩;simp only[aY,hl,aa,ae,g0,g1,g2,g3,g9,g10]
    iterate 8 refine cI ?_
    refine⟨?_,?_,?_,?_⟩
    ·first|omega|trivial
    ·first|exact hS|trivial
    ·first|exact hp|trivial
    ·first|exact hW|trivial
   clear hl g0 g1 g2 g3 g9 g10 g11 ts;rintro k_ ts H ⟨y,js,H1,rfl,hl,g0,g1,g2,g3,g9,g10,g12,rfl,hy,hS,hp,hW⟩;refine VS ?_;by_cases hy2:y<c
   rotate_left
   ·have d9:decide ((y:Int)<(c:Int))=false:=bh (by omega);simp only[↓aL,aM,↓reduceIte,aa,ae,hl,g2,g10,g12,w5,d9];refine bI ?_;refine⟨_,?_,jj+1,i,js,H,rfl,(by simp[bc,hl]),?_⟩
    ·first|omega|(simp;omega)
    simp only[aY,hl,aa,ae,g0,g1,g2,g3,g9]
    iterate 7 refine cI ?_
    refine⟨?_,?_,?_,?_,?_,?_⟩
    ·omega
    ·omega
    ·omega
    ·exact hS
    ·exact hp
    ·exact hW
   have d9:decide ((y:Int)<(c:Int))=true:=bj;have w10:=wz (z:=(y:Int)-1) (m:=y-1);have w11:=wz (z:=(y:Int)+1) (m:=y+1);obtain⟨F1,F2,H3,qf,tL,vQ,l1,l2,s1,s2,e3,o7,nS,mR⟩:=kZ R hS hp (i:=y) (j:=y-1) (by omega) (by omega);have c1:=eP (i:=y) (n:=n);have c2:=eP (i:=y-1) (n:=n);have iU:=hc _ _ tL vQ;generalize G6:cz (js.getD y 0) (js.getD (y-1) 0)=zz at iU;by_cases hz:zz<0
   ·have dz:decide (zz<0)=true:=bj hz;simp only[↓aL,aM,aJ,↓reduceIte,aa,ah,ae,hl,g0,hD,g2,g3,g12,d9,w10,w11,c1,c2,l1,l2,kg,iU,pr,dz,s1,s2,e3];refine bI ?_;refine⟨_,?_,y+1,qf,H3,rfl,(by simp[bc,hl]),?_⟩
    ·first|omega|(simp;omega)
    simp only[aY,hl,aa,ae,g0,g1,g2,g3,g9,g10]
    iterate 8 refine cI ?_
    refine⟨?_,?_,?_,?_⟩
    ·omega
    ·exact o7
    ·exact mR
    ·exact hW.trans nS
   ·have dz:decide (zz<0)=false:=bh hz;simp only[↓aL,aM,aJ,↓reduceIte,aa,ah,ae,hl,g0,hD,g2,g3,g10,g12,w5,d9,w10,c1,c2,l1,l2,kg,iU,pr,dz];refine bI ?_;refine⟨_,?_,jj+1,i,js,H,rfl,(by simp[bc,hl]),?_⟩
    ·first|omega|(simp;omega)
    simp only[aY,hl,aa,ae,g0,g1,g2,g3,g9]
    iterate 7 refine cI ?_
    refine⟨?_,?_,?_,?_,?_,?_⟩
    ·omega
    ·omega
    ·omega
    ·exact hS
    ·exact hp
    ·exact hW
  have dz:decide (yy<0)=true:=bj hz;simp only[↓aL,aM,aJ,↓reduceIte,aa,ah,ae,hl,g0,hD,g3,g11,d7,w12,c1,c2,l1,l2,kg,iU,pr,dz,s1,s2,e3];refine bI ?_;refine⟨_,?_,x-1,qf,H3,rfl,(by simp[bc,hl]),?_⟩
  ·first|omega|(simp;omega)
  simp only[aY,hl,aa,ae,g0,g1,g2,g3,g9,g10]
  iterate 8 refine cI ?_
  refine⟨?_,?_,?_,?_⟩
  ·omega
  ·exact o7
  ·exact mR
  ·exact hW.trans nS
end Go.Proofs.YtmkjgfnicfpjpaaGreatDoor
