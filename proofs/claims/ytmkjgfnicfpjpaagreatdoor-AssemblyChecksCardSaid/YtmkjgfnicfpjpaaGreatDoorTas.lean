/- Lemmas for AssemblyChecks; no condition. -/
import Derived.Test.YtmkjgfnicfpjpaaGreatDoorTar
set_option linter.all false
set_option maxHeartbeats 100000000
set_option maxRecDepth 100000
noncomputable section
open List renaming getElem?_append_left->aNB,getElem?_eq_some_iff->aKB,not_mem_nil->aVd,getD_eq_getElem?_getD->aTc,range->aN1,mem_cons->aMp,mem_cons_of_mem->aNu,length_append->aLk,getElem?_eq_getElem->aLh,prefix_append->aVe,mem_cons_self->aNG,length_cons->aLf
open Option renaming map_some->aLt
open Nat renaming reduceLT->aa,reduceEqDiff->ae,reduceAdd->ah,reduceLeDiff->ai,reduceMul->ak
open Int renaming reduceLE->an,reduceLT->aq,reduceToNat->ar,reduceAdd->aA,reduceNeg->aB,reduceBNe->aE
namespace Go.Proofs.YtmkjgfnicfpjpaaGreatDoor
open Go Dv Dv.dR
variable{E:Env}[C:Ctx E]
def qd:aW .i64 1=1:=by decide
def O9:aW .i64 2=2:=by decide
def wk3:aW .i64 3=3:=by decide
def wk4:aW .i64 4=4:=by decide
structure V3 where
 x:Rat
 y:Rat
 z:Rat
def ky(v:AV)(a:V3):Prop:=∃n0 m0 n1 m1 n2 m2 n3 m3 n4 m4 n5 m5,v=.agg [.bool n0,m0,.bool n1,m1,.bool n2,m2,.bool n3,m3,.bool n4,m4,.bool n5,m5]/\
 eA (.agg [.bool n0,m0,.bool n1,m1]) a.x/\eA (.agg [.bool n2,m2,.bool n3,m3]) a.y/\eA (.agg [.bool n4,m4,.bool n5,m5]) a.z
def cI{n m n' m'}(q:Rat)(h:eA (.agg [.bool n,m,.bool n',m']) q):aU m=true/\cL m=true/\aU m'=true/\cL m'=true:=by obtain⟨na,ma,nb,mb,l,l',e,-,h1,h2,-⟩:=db h;simp only[AV.agg.injEq,List.cons.injEq,AV.bool.injEq,and_true]at e;obtain⟨-,rfl,-,rfl⟩:=e;exact⟨aO h1,(bA h1).2,aO h2,(bA h2).2⟩
def uy{f:Nat}(hf:bF E f=false){fc:List AV}(hfc:aV fc=true){v w:AV}{a b c:V3}(h:ky v a)(h':ky w b)
  (hx:∀x y,eA x a.x->eA y b.x->∃r,aR E f (x::y::fc)=some r/\eA r c.x)
  (hy:∀x y,eA x a.y->eA y b.y->∃r,aR E f (x::y::fc)=some r/\eA r c.y)
  (hz:∀x y,eA x a.z->eA y b.z->∃r,aR E f (x::y::fc)=some r/\eA r c.z):
  ∃r,aR E 76 [v,w,.func f [] fc]=some r/\ky r c:=by
 obtain⟨n0,m0,n1,m1,n2,m2,n3,m3,n4,m4,n5,m5,rfl,a1,a2,a3⟩:=h;obtain⟨p0,q0,p1,q1,p2,q2,p3,q3,p4,q4,p5,q5,rfl,b1,b2,b3⟩:=h';obtain⟨r1,c1,d1⟩:=hx _ _ a1 b1;obtain⟨r2,c2,d2⟩:=hy _ _ a2 b2;obtain⟨r3,c3,d3⟩:=hz _ _ a3 b3;obtain⟨i0,j0,i1,j1,-,-,rfl,-⟩:=db d1;obtain⟨i2,j2,i3,j3,-,-,rfl,-⟩:=db d2;obtain⟨i4,j4,i5,j5,-,-,rfl,-⟩:=db d3;have A1:=cI _ a1;have A2:=cI _ a2;have A3:=cI _ a3;have B1:=cI _ b1;have B2:=cI _ b2;have B3:=cI _ b3;have D1:=cI _ d1;have D2:=cI _ d2;have D3:=cI _ d3;have kU:=fun{dr st:Bool} {bl:List AV} {H:Hp} {k:AV->cC->Prop}=>kH (E:=E) (dr:=dr) (st:=st) (f:=f) (bl:=bl) (H:=H) (k:=k) hf
 refine gw3 ayw ?_;intro ts hl g0 g1 g2;unfold c76;simp only[↓aL,aM,aJ,ah,ae,Tryz.f76,g0,g1];refine rN 4 ?_;simp only[↓aL,aM,aJ,↓reduceIte,aa,ah,ak,ae,an,aq,ar,ai,aA,hl,g2,A1,A2,A3,B1,B2,B3,D1,D2,D3,kU,c1,c2,c3,hfc,qd,O9,wk3];exact⟨_,_,_,_,_,_,_,_,_,_,_,_,rfl,d1,d2,d3⟩
def BV(k:Nat)(a:V3):Prop:=Bq k a.x/\Bq k a.y/\Bq k a.z
def BV.mono{k l:Nat}{a:V3}(h:BV k a)(hl:k<=l):BV l a:=⟨h.1.mono hl,h.2.1.mono hl,h.2.2.mono hl⟩
def amn(a:V3):V3:=⟨0-a.x,0-a.y,0-a.z⟩
def DY(k:Rat)(a:V3):V3:=⟨k*a.x,k*a.y,k*a.z⟩
def aBA(a b:V3):V3:=⟨a.x*b.x,a.y*b.y,a.z*b.z⟩
def ae6(a b:V3):Rat:=0+a.x*b.x+a.y*b.y+a.z*b.z
def O6(a b:V3):V3:=⟨a.y*b.z-a.z*b.y,a.z*b.x-a.x*b.z,a.x*b.y-a.y*b.x⟩
def v0:V3:=⟨0,0,0⟩
def OZ(a b:V3):Int:=if qq a.x b.x≠0 then qq a.x b.x else if qq a.y b.y≠0 then qq a.y b.y else qq a.z b.z
def PD:Bq 1 0:=by
 refine⟨?_,?_⟩<;>decide
def bv0:BV 1 v0:=⟨PD,PD,PD⟩
def O7:ky (.agg [.bool false,.aH,.bool false,.aH,.bool false,.aH,.bool false,.aH,.bool false,.aH,.bool false,.aH]) v0:=
 ⟨_,_,_,_,_,_,_,_,_,_,_,_,rfl,oD,oD,oD⟩
def dC{v:AV}{a:V3}(h:ky v a):∃n0 m0 n1 m1 n2 m2 n3 m3 n4 m4 n5 m5,v=.agg [.bool n0,m0,.bool n1,m1,.bool n2,m2,.bool n3,m3,.bool n4,m4,.bool n5,m5]/\
 eA (.agg [.bool n0,m0,.bool n1,m1]) a.x/\eA (.agg [.bool n2,m2,.bool n3,m3]) a.y/\eA (.agg [.bool n4,m4,.bool n5,m5]) a.z/\
 (aU m0=true/\aU m1=true/\aU m2=true/\aU m3=true/\aU m4=true/\aU m5=true)/\(cL m0=true/\cL m1=true/\cL m2=true/\cL m3=true/\cL m4=true/\cL m5=true):=by
 obtain⟨n0,m0,n1,m1,n2,m2,n3,m3,n4,m4,n5,m5,e,h1,h2,h3⟩:=h;have A:=cI _ h1;have B:=cI _ h2;have D:=cI _ h3;exact⟨n0,m0,n1,m1,n2,m2,n3,m3,n4,m4,n5,m5,e,h1,h2,h3,⟨A.1,A.2.2.1,B.1,B.2.2.1,D.1,D.2.2.1⟩,⟨A.2.1,A.2.2.2,B.2.1,B.2.2.2,D.2.1,D.2.2.2⟩⟩
def LB{v:AV}{a:V3}(h:ky v a):aU v=true:=by obtain⟨n0,m0,n1,m1,n2,m2,n3,m3,n4,m4,n5,m5,rfl,-,-,-,⟨P0,P1,P2,P3,P4,P5⟩,-⟩:=dC h;simp[aU,aV,P0,P1,P2,P3,P4,P5]
def TS{v:AV}{a:V3}(h:ky v a){k:Nat}(ba:BV k a)(hk:k<=90000000000):∃r,aR E 183 [v]=some r/\ky r (amn a):=by obtain⟨r,hr,ir⟩:=uy (E:=E) (f:=152) (fc:=[]) agP rfl O7 h (c:=amn a) (fun x y hx hy=>mi (E:=E) hx hy PD ba.1) (fun x y hx hy=>mi (E:=E) hx hy PD ba.2.1) (fun x y hx hy=>mi (E:=E) hx hy PD ba.2.2);obtain⟨n0,m0,n1,m1,n2,m2,n3,m3,n4,m4,n5,m5,rfl,-,-,-,P,O⟩:=dC h;obtain⟨s0,t0,s1,t1,s2,t2,s3,t3,s4,t4,s5,t5,rfl,-,-,-,P2,O2⟩:=dC ir;refine qj arj ?_;intro ts hl g0;unfold aoP;simp only[↓aL,aM,↓aT,aJ,↓reduceIte,aa,ah,ae,Tryz.f183,hl,g0,P,P2,O2,hr];exact ir
def TJ{n0 m0 n1 m1 n2 m2 n3 m3 n4 m4 n5 m5}{x y z:Rat}(hx:eA (.agg [.bool n0,m0,.bool n1,m1]) x)(hy:eA (.agg [.bool n2,m2,.bool n3,m3]) y)(hz:eA (.agg [.bool n4,m4,.bool n5,m5]) z){k:Nat}(bx:Bq k x)(b_y:Bq k y)(bz:Bq k z)(hk:k<=20000000000):
  ∃r,aR E 99 [.aK [.bool n0,m0,.bool n1,m1,.bool n2,m2,.bool n3,m3,.bool n4,m4,.bool n5,m5] 3]=some r/\eA r (0+x+y+z):=by
 obtain⟨r1,c1,d1⟩:=uW (E:=E) oD hx PD bx;have b1:=PD.add bx;obtain⟨r2,c2,d2⟩:=uW (E:=E) d1 hy b1 b_y;have b2:=b1.add b_y;obtain⟨r3,c3,d3⟩:=uW (E:=E) d2 hz b2 bz;obtain⟨i0,j0,i1,j1,-,-,rfl,-⟩:=db d1;obtain⟨i2,j2,i3,j3,-,-,rfl,-⟩:=db d2;obtain⟨i4,j4,i5,j5,-,-,rfl,-⟩:=db d3;have A1:=cI _ hx;have A2:=cI _ hy;have A3:=cI _ hz;have D1:=cI _ d1;have D2:=cI _ d2;have D3:=cI _ d3;refine qj ayF ?_;intro ts hl g0;unfold c99;simp only[↓aL,aM,aJ,aa,ae,Tryz.f99,hl,g0];refine rN 4 ?_;simp only[↓aL,aM,↓aT,aJ,↓reduceIte,aa,ah,ak,ae,an,aq,ar,ai,aA,hl,A1,A2,A3,D1,D2,D3,c1,c2,c3,qd,O9,wk3];exact d3
def yw{m:AV}{l:List Nat}(h:eC m l):Flat m:=by
 rcases h.2 with rfl|⟨-,rfl|rfl⟩<;>exact fun _ _=>rfl
def yJ{n m n' m'}(q:Rat)(h:eA (.agg [.bool n,m,.bool n',m']) q):Flat m/\Flat m':=by obtain⟨na,ma,nb,mb,l,l',e,-,h1,h2,-⟩:=db h;simp only[AV.agg.injEq,List.cons.injEq,AV.bool.injEq,and_true]at e;obtain⟨-,rfl,-,rfl⟩:=e;exact⟨yw h1,yw h2⟩
def WO{b:Bool}:Flat (.bool b):=fun _ _=>rfl
def flat_agg{H:Hp}{n:Nat}{cs:List AV}(h:∀v∈cs,Flat v):fz H (n+2) (.agg cs)=some (.agg cs,[]):=by unfold fz;simp only;rw[qE h];simp only[aLt,yz,nO]
def ajL{H:Hp}{n b f:Nat}{cs:List AV}{st:oe}(h:H[b]?=some (.cells st cs))(hd:st≠ .dead)(hf:∀v∈cs,Flat v):fz H (n+3) (.func f [] [.bI b 0])=some (.func f [] [.cU cs 0],[b]):=by
 have h1:fz H (n+2) (.bI b 0)=some (.cU cs 0,[b]):=by unfold fz;simp only[h];rw[if_neg hd,qE hf];simp only[aLt,yz,nO]
 unfold fz;simp only;unfold eZ;rw[h1];unfold eZ;rfl
def acX{H:Hp}{b f:Nat}{l1 l2 cs:List AV}{st:oe}(f1:∀v∈l1,Flat v)(f2:∀v∈l2,Flat v)(h:H[b]?=some (.cells st cs))(hd:st≠ .dead)(hf:∀v∈cs,Flat v):qR false H [.agg l1,.agg l2,.func f [] [.bI b 0]]=some ([.agg l1,.agg l2,.func f [] [.cU cs 0]],[b]):=by rw[xC];unfold bW;rw[show aV [AV.agg l1,.agg l2,.func f [] [.bI b 0]]=false by simp[aV,aU]];simp only[Bool.false_eq_true,if_false];unfold eZ;rw[flat_agg f1];unfold eZ;rw[flat_agg f2];unfold eZ;rw[ajL h hd hf];unfold eZ;rfl
def yQ{n0 m0 n1 m1 n2 m2 n3 m3 n4 m4 n5 m5}{a:V3}(h:ky (.agg [.bool n0,m0,.bool n1,m1,.bool n2,m2,.bool n3,m3,.bool n4,m4,.bool n5,m5]) a):∀v∈[.bool n0,m0,.bool n1,m1,.bool n2,m2,.bool n3,m3,.bool n4,m4,.bool n5,m5],Flat v:=by
 obtain⟨p0,q0,p1,q1,p2,q2,p3,q3,p4,q4,p5,q5,e,h1,h2,h3⟩:=h;simp only[AV.agg.injEq,List.cons.injEq,AV.bool.injEq,and_true]at e;obtain⟨rfl,rfl,rfl,rfl,rfl,rfl,rfl,rfl,rfl,rfl,rfl,rfl⟩:=e;have A:=yJ _ h1;have B:=yJ _ h2;have D:=yJ _ h3;intro v hv;simp only[aMp,aVd,or_false]at hv;rcases hv with rfl|rfl|rfl|rfl|rfl|rfl|rfl|rfl|rfl|rfl|rfl|rfl<;>first|exact WO|exact A.1|exact A.2|exact B.1|exact B.2|exact D.1|exact D.2
def Tn{n0 m0 n1 m1}{q:Rat}(h:eA (.agg [.bool n0,m0,.bool n1,m1]) q):∀v∈[.bool n0,m0,.bool n1,m1],Flat v:=by
 have A:=yJ _ h;intro v hv;simp only[aMp,aVd,or_false]at hv;rcases hv with rfl|rfl|rfl|rfl<;>first|exact WO|exact A.1|exact A.2
def tZ{v w:AV}{k0 k1 k2 k3:AV}{q p:Rat}(h:eA v q)(hk:eA (.agg [k0,k1,k2,k3]) p){k l:Nat}(bq:Bq k q)(bp:Bq l p)(hb:k+l<=100000000000):∃r,aR E 77 [v,w,.cU [k0,k1,k2,k3] 0]=some r/\eA r (p*q):=by obtain⟨r,hr,ir⟩:=nZ (E:=E) hk h bp bq;obtain⟨n0,m0,n1,m1,_,_,rfl,-,-,-,-⟩:=db h;obtain⟨i0,j0,i1,j1,_,_,e,-,-,-,-⟩:=db hk;simp only[AV.agg.injEq,List.cons.injEq,and_true]at e;obtain⟨rfl,rfl,rfl,rfl⟩:=e;obtain⟨s0,t0,s1,t1,_,_,rfl,-,-,-,-⟩:=db ir;have A:=cI _ h;have B:=cI _ hk;have D:=cI _ ir;have hp:fG true 4 [AV.bool i0,k1,.bool i1,k3] 0=some (.agg [.bool i0,k1,.bool i1,k3]):=rfl;refine gw3 ayx ?_;intro ts hl g0 g1 g2;unfold c77;simp only[↓aL,aM,↓aT,aJ,↓reduceIte,aa,ah,ae,Tryz.f77,hl,g0,g1,g2,hp,hr,A,B,D];exact ir
def A4{v w:AV}{a:V3}{p:Rat}(h:ky v a)(hk:eA w p){k l:Nat}(ba:BV k a)(bp:Bq l p)(hb:k+l<=100000000000:=by omega):∃r,aR E 49 [v,w]=some r/\ky r (DY p a):=by
 obtain⟨n0,m0,n1,m1,n2,m2,n3,m3,n4,m4,n5,m5,rfl,-,-,-,P,O⟩:=dC h;obtain⟨i0,j0,i1,j1,_,_,rfl,-,-,-,-⟩:=db hk;have B:=cI _ hk;obtain⟨r,hr,ir⟩:=uy (E:=E) (f:=77) (fc:=[.cU [.bool i0,j0,.bool i1,j1] 0]) (bM C) (by simp[aV,aU]) h h (c:=DY p a) (fun x y hx hy=>tZ (E:=E) hx hk ba.1 bp hb) (fun x y hx hy=>tZ (E:=E) hx hk ba.2.1 bp hb) (fun x y hx hy=>tZ (E:=E) hx hk ba.2.2 bp hb);obtain⟨s0,t0,s1,t1,s2,t2,s3,t3,s4,t4,s5,t5,rfl,-,-,-,P2,O2⟩:=dC ir;have fY:=acX (f:=77) (b:=1) (H:=[.cells .live [.bool n0,m0,.bool n1,m1,.bool n2,m2,.bool n3,m3,.bool n4,m4,.bool n5,m5],.cells .live [.bool i0,j0,.bool i1,j1],.cells .live [.bool false,.aH,.bool false,.aH,.bool false,.aH,.bool false,.aH,.bool false,.aH,.bool false,.aH]]) (yQ h) (yQ h) (st:=.live) rfl (by decide) (Tn hk);refine pX ayn ?_;intro ts hl g0 g1;unfold c49;cases zQ:bY (.agg [.bool s0,t0,.bool s1,t1,.bool s2,t2,.bool s3,t3,.bool s4,t4,.bool s5,t5])with
 |true=>
  simp only[↓aL,aM,↓aT,aJ,↓reduceIte,aa,ah,ae,Tryz.f49,hl,g0,g1,P,P2,O2,fY,hr,zQ];exact ir
 |false=>
  simp only[↓aL,aM,↓aT,aJ,↓reduceIte,aa,ah,ae,Tryz.f49,hl,g0,g1,P,P2,O2,fY,hr,zQ];exact ir
def yN{E:Env}{t len n:Nat}{ag:Bool}(h:gN E t=some (len,ag,n)){H:Hp}{b:Nat}{st:oe}{cs:List AV}(hb:H[b]?=some (.cells st cs))(hd:st≠ .dead)(hl:cs.length=len*n)(h0:0<len:=by decide)(h1:0<n:=by decide):HR E H t (.bI b 0) none none=some (.aI b 0 len n len):=by
 unfold gN at h;cases hi:E.ty t with
 |none=>rw[hi]at h;cases h
 |some i=>
  rw[hi]at h;obtain⟨cD,jA,jS,jB,jZ,dQ⟩:=i;cases cD<;>first|(cases h;done)|skip
  rename_i ln e;simp only at h;cases he:E.ty e with
  |none=>rw[he]at h;cases h
  |some ei=>
   rw[he]at h;simp only[Option.some.injEq,Prod.mk.injEq]at h;obtain⟨e1,e2,e3⟩:=h;subst e1;subst e2;subst e3
   have hp:0<ln*ei.size:=Nat.mul_pos h0 h1;have hc:¬(st=.dead∨cs.length<0+ln*ei.size∨cs.length=0):=by
    rintro(h|h|h)
    ·exact hd h
    ·omega
    ·omega
   have CW:¬(st=.dead∨cs.length<ln*ei.size∨cs=[]):=by
    rintro(h|h|h)
    ·exact hd h
    ·omega
    ·rw[h]at hl;simp at hl;omega
   simp[HR,hi,gY,he,fN,hiE,loE,hb,CW];omega
def Wn{k l:Nat}{a b:V3}(ba:BV k a)(bb:BV l b):Bq (3*(k+l)+4) (ae6 a b):=by have h1:=((PD.add (ba.1.mul bb.1)).add (ba.2.1.mul bb.2.1)).add (ba.2.2.mul bb.2.2);exact h1.mono (by omega)
def I8{v w:AV}{a b:V3}(h:ky v a)(h':ky w b){k l:Nat}(ba:BV k a)(bb:BV l b)(hk:k+l<=10000000000:=by omega):∃r,aR E 123 [v,w]=some r/\eA r (ae6 a b):=by
 obtain⟨r,hr,ir⟩:=uy (E:=E) (f:=69) (fc:=[]) aAg rfl h h' (c:=aBA a b) (fun x y hx hy=>nZ (E:=E) hx hy ba.1 bb.1) (fun x y hx hy=>nZ (E:=E) hx hy ba.2.1 bb.2.1) (fun x y hx hy=>nZ (E:=E) hx hy ba.2.2 bb.2.2);obtain⟨n0,m0,n1,m1,n2,m2,n3,m3,n4,m4,n5,m5,rfl,-,-,-,P,O⟩:=dC h;obtain⟨p0,q0,p1,q1,p2,q2,p3,q3,p4,q4,p5,q5,rfl,-,-,-,P',O'⟩:=dC h';obtain⟨s0,t0,s1,t1,s2,t2,s3,t3,s4,t4,s5,t5,rfl,e1,e2,e3,P2,O2⟩:=dC ir;obtain⟨u,hu,iu⟩:=TJ (E:=E) e1 e2 e3 (ba.1.mul bb.1) (ba.2.1.mul bb.2.1) (ba.2.2.mul bb.2.2) (by omega);obtain⟨i0,j0,i1,j1,_,_,rfl,-,-,-,-⟩:=db iu;have D:=cI _ iu;have Jp:=yQ ir;have fY:=fun(H:Hp) (hH:H[3]?=some (.cells .live [.bool s0,t0,.bool s1,t1,.bool s2,t2,.bool s3,t3,.bool s4,t4,.bool s5,t5]))=>yf (H:=H) (b:=3) (m:=3) (s:=4) hH (by decide) rfl Jp
 have asZ:=fY [.cells .live [.bool n0,m0,.bool n1,m1,.bool n2,m2,.bool n3,m3,.bool n4,m4,.bool n5,m5],.cells .live [.bool p0,q0,.bool p1,q1,.bool p2,q2,.bool p3,q3,.bool p4,q4,.bool p5,q5],.cells .live [.bool false,.aH,.bool false,.aH],.cells .live [.bool s0,t0,.bool s1,t1,.bool s2,t2,.bool s3,t3,.bool s4,t4,.bool s5,t5]] rfl;have C0:=yN (E:=E) ahM (H:=[.cells .live [.bool n0,m0,.bool n1,m1,.bool n2,m2,.bool n3,m3,.bool n4,m4,.bool n5,m5],.cells .live [.bool p0,q0,.bool p1,q1,.bool p2,q2,.bool p3,q3,.bool p4,q4,.bool p5,q5],.cells .live [.bool false,.aH,.bool false,.aH],.cells .live [.bool s0,t0,.bool s1,t1,.bool s2,t2,.bool s3,t3,.bool s4,t4,.bool s5,t5]]) (b:=3) rfl (by decide) rfl;refine pX aqP ?_;intro ts hl g0 g1;unfold aon;cases zQ:bY (.agg [.bool i0,j0,.bool i1,j1])with
 |true=>
  simp only[↓aL,aM,↓aT,aJ,↓reduceIte,aa,ah,ae,Tryz.f123,hl,g0,g1,P,P',O2,hr,C0,asZ,hu,zQ,D];exact iu
 |false=>
  simp only[↓aL,aM,↓aT,aJ,↓reduceIte,aa,ah,ae,Tryz.f123,hl,g0,g1,P,P',O2,hr,C0,asZ,hu,zQ,D];exact iu
end Go.Proofs.YtmkjgfnicfpjpaaGreatDoor
namespace Go.Proofs.YtmkjgfnicfpjpaaGreatDoor
open Go Dv
variable{E:Env}[C:Ctx E]
def KO(x:Int):Bool:=decide (x< -4096∨4096<x)
def aeb{x:Int}(h:x< -4096):KO x=true:=bh (.inl h)
def aec{x:Int}(h:4096<x):KO x=true:=bh (.inr h)
def alH{x:Int}(h1:¬x< -4096)(h2:¬4096<x):KO x=false:=bj
def Hw{x:Int}(h:KO x=false): -4096<=x/\x<=4096:=by unfold KO at h;have:=of_decide_eq_false h;omega
def Td{x:Int}:aR E 201 [.int .i64 x]=some (.bool (KO x)):=by
 suffices hh:∃r,aR E 201 [.int .i64 x]=some r/\r=.bool (KO x)by obtain⟨r,h1,rfl⟩:=hh;exact h1
 refine qj ars ?_;intro ts hl g0;unfold ao4;by_cases h1:x< -4096
 ·have d1:decide (x< -4096)=true:=bh h1;simp only[↓aL,aM,aa,ae,Tryz.f201,aB,hl,g0,d1];rw[aeb h1]
 have d1:decide (x< -4096)=false:=bj h1;by_cases h2:4096<x
 ·have d2:decide (x>4096)=true:=bh h2;simp only[↓aL,aM,aa,ae,Tryz.f201,aB,hl,g0,d1,d2];rw[aec h2]
 ·have d2:decide (x>4096)=false:=bj h2;simp only[↓aL,aM,aa,ae,Tryz.f201,aB,hl,g0,d1,d2];rw[alH h1 h2]
def aqm(p:I3)(i:Nat):Int:=[p.x,p.y,p.z].getD i 0
def Wc(p:I3):qg p=iL [p.x,p.y,p.z]:=rfl
def ajK{H:Hp}{b:Nat}{p:I3}{v:AV}(h:H[b]?=some (.cells .live (qg p)))(hv:Flat v):qR false H [.aI b 0 3 1 3,v]=some ([.aK (qg p) 3,v],[b]):=by
 exact k8 (m:=2) (bs:=[b]) (eu.cons (Fr.M0 h (by decide) rfl (eu.flat (fun c hc=>by
  simp only[qg,aMp,aVd,or_false]at hc;rcases hc with rfl|rfl|rfl<;>exact fE))) (eu.cons ((Fr.flat hv).up (by omega)) eu.nil)) (by omega) (by simp[aV,aU])
def Hy{p:I3}:∃r,aR E 155 [v3 p]=some r/\∃b:Bool,r=.bool b/\(b=false->B3 4096 p):=by
 obtain⟨r,hr,b,rfl,hb⟩:=oO (E:=E) .i .i (n:=3) (g:=201) (cs:=qg p) (caps:=[]) (el:=fun i=>.int .i64 (aqm p i)) (p:=fun i=>KO (aqm p i)) (by omega) (bM C) (by rw[Wc];exact yn _) rfl
  (fun i hi=>by rw[Wc];exact XT (xs:=[p.x,p.y,p.z]) hi) (fun i hi=>rfl) (fun i hi=>Td)
 have C0:=yN (E:=E) UY (H:=[.cells .live (qg p)]) (b:=0) rfl (by decide) rfl;have fY:=ajK (H:=[.cells .live (qg p)]) (b:=0) (p:=p) (v:=.func 201 [] []) rfl CK;refine qj aqX ?_;intro ts hl g0;unfold aow;unfold v3 at g0;unfold qg at fY hr C0;simp only[↓aL,aM,↓aT,aJ,aa,ae,Tryz.f155,hl,g0,C0,fY,hr];refine⟨b,rfl,fun e=>?_⟩;have h:=hb e;exact⟨Hw (h 0 (by omega)),Hw (h 1 (by omega)),Hw (h 2 (by omega))⟩
def acU{H:Hp}{b c:Nat}{p q:I3}(h:H[b]?=some (.cells .live (qg p)))(h2:H[c]?=some (.cells .live (qg q))):qR false H [.aI b 0 3 1 3,.aI c 0 3 1 3]=some ([.aK (qg p) 3,.aK (qg q) 3],[b]++[c]):=by
 have hh:∀p:I3,∀c∈qg p,Flat c:=fun p c hc=>by
  simp only[qg,aMp,aVd,or_false]at hc;rcases hc with rfl|rfl|rfl<;>exact fE
 exact k8 (m:=2) (eu.cons (Fr.M0 h (by decide) rfl (eu.flat (hh p))) (eu.cons (Fr.M0 h2 (by decide) rfl (eu.flat (hh q))) eu.nil)) (by omega) (by simp[aV,aU])
def ahp{a b:I3}(h:LxI [a.x,a.y,a.z] [b.x,b.y,b.z]):rQ a b:=by
 rcases h with h|⟨i,hi,hj,ek⟩
 ·exact absurd h (by simp)
 ·have h3:i<3:=hi;rcases i with _|_|_|i
  ·exact .inl ek
  ·exact .inr ⟨hj 0 (by omega),.inl ek⟩
  ·exact .inr ⟨hj 0 (by omega),.inr ⟨hj 1 (by omega),ek⟩⟩
  ·omega
def Ky{p q:I3}:∃r,aR E 156 [v3 p,v3 q]=some r/\∃z:Int,r=.int .i64 z/\(z<0->rQ p q):=by obtain⟨r,hr,z,rfl,hz⟩:=Gr (E:=E) (xs:=[p.x,p.y,p.z]) (ys:=[q.x,q.y,q.z]) (by simp) (by simp);have C0:=yN (E:=E) UY (H:=[.cells .live (qg p),.cells .live (qg q)]) (b:=0) rfl (by decide) rfl;have atF:=yN (E:=E) UY (H:=[.cells .live (qg p),.cells .live (qg q)]) (b:=1) rfl (by decide) rfl;have fY:=acU (H:=[.cells .live (qg p),.cells .live (qg q)]) (b:=0) (c:=1) (p:=p) (q:=q) rfl rfl;refine pX aqY ?_;intro ts hl g0 g1;unfold aox;unfold v3 at g0 g1;unfold qg at fY C0 atF;simp only[iL,List.map_cons,List.map_nil,aLf,List.length_nil,Nat.zero_add,ah]at hr;simp only[↓aL,aM,↓aT,aJ,aa,ah,ae,Tryz.f156,hl,g0,g1,C0,atF,fY,hr];exact⟨z,rfl,fun h=>ahp (hz h)⟩
def an2(k:IntKind)(a b:Int):Int:=aW k ((BitVec.ofInt k.bits a&&&BitVec.ofInt k.bits b).toNat:Int)
def abr{E:Env}{c:Bool}{t:Nat}{k:IntKind}{a b:Int}:cd E c .and t (.int k a) (.int k b)=some (.int k (an2 k a b)):=by
 simp only[cd,k7,ne_eq,not_true_eq_false,if_false,an2,BitVec.toNat_and]
 first|done|rfl
def aBh(k:IntKind)(a:Int)(n:Int):Int:=a.fdiv ((2:Int)^(min n.toNat k.bits))
def uw{E:Env}{c:Bool}{t:Nat}{n:Int}{k k':IntKind}{a:Int}(h:0<=n:=by decide):cd E c .shr t (.int k a) (.int k' n)=some (.int k (aBh k a n)):=by simp only[cd];rw[if_neg (by omega)];rfl
def Tb{x:Int}:∃r,aR E 158 [.int .u64 x]=some r/\∃z:Int,r=.int .i64 z:=by
 have ha:=fun{c:Bool} {t:Nat} {k:IntKind} {a b:Int}=>abr (E:=E) (c:=c) (t:=t) (k:=k) (a:=a) (b:=b)
 have s1:=fun{c:Bool} {t:Nat} {k k':IntKind} {a:Int}=>uw (E:=E) (c:=c) (t:=t) (n:=1) (k:=k) (k':=k') (a:=a)
 have s2:=fun{c:Bool} {t:Nat} {k k':IntKind} {a:Int}=>uw (E:=E) (c:=c) (t:=t) (n:=2) (k:=k) (k':=k') (a:=a)
 have s3:=fun{c:Bool} {t:Nat} {k k':IntKind} {a:Int}=>uw (E:=E) (c:=c) (t:=t) (n:=4) (k:=k) (k':=k') (a:=a)
 have s4:=fun{c:Bool} {t:Nat} {k k':IntKind} {a:Int}=>uw (E:=E) (c:=c) (t:=t) (n:=8) (k:=k) (k':=k') (a:=a)
 have s5:=fun{c:Bool} {t:Nat} {k k':IntKind} {a:Int}=>uw (E:=E) (c:=c) (t:=t) (n:=16) (k:=k) (k':=k') (a:=a)
 have s6:=fun{c:Bool} {t:Nat} {k k':IntKind} {a:Int}=>uw (E:=E) (c:=c) (t:=t) (n:=32) (k:=k) (k':=k') (a:=a)
 refine qj aq0 ?_;intro ts hl g0;unfold aoz;simp only[↓aL,aM,aa,ae,Tryz.f158,↓eh gU Up,hl,g0,ha,s1,s2,s3,s4,s5,s6];exact⟨_,rfl⟩
def alw(bG:List I3)(N:I3)(i:Nat)(p:I3):Bool:=I3.dt N (I3.sb p (fh bG i))!=0
def MH{bG:List I3}(hR:UH bG){N p:I3}(bN:B3 134217728 N){i:Nat}(hi:i<bG.length)(hp:B3 4096 p):
  aR E 205 [v3 p,.cU (qg N) 0,.cU [kO bG] 0,.cU [.int .i64 (i:Int)] 0]=some (.bool (alw bG N i p)):=by
 suffices hh:∃r,aR E 205 [v3 p,.cU (qg N) 0,.cU [kO bG] 0,.cU [.int .i64 (i:Int)] 0]=some r/\r=.bool (alw bG N i p)by obtain⟨r,h1,rfl⟩:=hh;exact h1
 have pi:=mU (bG:=bG) hi;have ci:=eT (i:=i) (n:=bG.length) hi;have s1:=j6 (E:=E) hp (hR.at i);have d1:=qs (E:=E) bN ((hp.sub (hR.at i)).mono (by omega));simp only[v3]at pi s1 d1;refine gw4 arw ?_;intro ts hl g0 g1 g2 g3;unfold ao8;unfold v3 at g0;unfold qg at g1;unfold kO at g2;simp only[↓aL,aM,↓aT,aJ,↓reduceIte,aa,ah,ae,Tryz.f205,hl,g0,g1,g2,g3,pi,ci,s1,d1];rfl
def R7{bG:List I3}(hR:UH bG)(hn:bG.length<=60):∃r,aR E 157 [kO bG]=some r/\∃b:Bool,r=.bool b:=by
 have pp:=tP bG;refine qj aqZ ?_;intro ts hl g0;unfold aoy;unfold kO at g0;simp only[↓aL,aM,aJ,aa,ae,Tryz.f157,hl,g0,Cm];refine cE (fun k_ ts H=>∃i:Nat,∃H1,k_=(bG.length-i:Nat)/\ts.length=49/\gt ts 1=.bI 0 0/\gt ts 7=.aK (oC bG) bG.length/\gt ts 8=.int .i64 (bG.length:Int)/\gt ts 9=.int .i64 (i:Int)/\H=H1/\(i<=bG.length)/\(H1[0]?=some (.cells .live [.aK (oC bG) bG.length]))) (bG.length) ?_ ?_
 rotate_left
 ·refine⟨0,[.cells .live [.aK (oC bG) bG.length]],(by first|omega|rfl|simp),(by simp[bc,hl]),?_⟩;simp only[aZ,hl,aa,ae]
  iterate 5 refine cG ?_
  refine⟨?_,?_⟩
  ·first|omega|trivial
  ·first|rfl|trivial
 clear hl g0 ts;rintro k_ ts H ⟨i,H1,rfl,hl,g1,g7,g8,g9,rfl,hi,h0⟩;refine VS ?_;by_cases hd:i<bG.length
 rotate_left
 ·have d1:decide ((i:Int)<(bG.length:Int))=false:=bj;simp only[↓aL,aM,↓reduceIte,aa,hl,g8,g9,d1];exact⟨_,rfl⟩
 have d1:decide ((i:Int)<(bG.length:Int))=true:=bh;have mZ:=wz (z:=(i:Int)+1) (m:=i+1);simp only[↓aL,aM,aJ,cH,↓reduceIte,aa,ae,hl,g8,g9,d1];have nR:=(aKB.1 h0).1;refine cE (fun k_ ts H=>∃j:Nat,∃b,∃H1,k_=(i-j:Nat)/\ts.length=49/\gt ts 1=.bI 0 0/\gt ts 3=.bI b 0/\gt ts 7=.aK (oC bG) bG.length/\gt ts 8=.int .i64 (bG.length:Int)/\gt ts 9=.int .i64 (i:Int)/\gt ts 12=.int .i64 (i:Int)/\gt ts 13=.int .i64 (j:Int)/\H=H1/\(j<=i)/\(H1[0]?=some (.cells .live [.aK (oC bG) bG.length]))/\(H1[b]?=some (.cells .live [.int .i64 (i:Int)]))) (i) ?_ ?_
 rotate_left
 ·refine⟨0,H.length,(H++[.cells .live [.int .i64 (i:Int)]]),(by first|omega|rfl|simp),(by simp[bc,hl]),?_⟩;simp only[aZ,hl,aa,ae,g1,g7,g8,g9]
  iterate 8 refine cG ?_
  refine⟨?_,?_,?_⟩
  ·first|omega|trivial
  ·first|(rw[aNB nR];exact h0)|trivial
  ·first|simp|trivial
 clear hl g1 g7 g8 g9 ts;rintro k_ ts H ⟨j,b,H1,rfl,hl,g1,g3,g7,g8,g9,g12,g13,rfl,hj,h0,hb⟩;refine VS ?_;by_cases lK:j<i
 rotate_left
 ·have d2:decide ((j:Int)<(i:Int))=false:=bj;simp only[↓aL,aM,↓reduceIte,aa,ae,hl,g9,g12,g13,d2,mZ];refine bK ?_;refine⟨_,?_,i+1,H,rfl,(by simp[bc,hl]),?_⟩
  ·first|omega|(simp;omega)
  simp only[aZ,hl,aa,ae,g1,g7,g8]
  iterate 5 refine cG ?_
  refine⟨?_,?_⟩
  ·omega
  ·exact h0
 have d2:decide ((j:Int)<(i:Int))=true:=bh;have wj1:=wz (z:=(j:Int)+1) (m:=j+1);simp only[↓aL,aM,aa,ae,hl,g12,g13,d2];refine cE (fun k_ ts H=>∃k:Nat,∃H1,k_=(j-k:Nat)/\ts.length=49/\gt ts 1=.bI 0 0/\gt ts 3=.bI b 0/\gt ts 4=.int .i64 (j:Int)/\gt ts 7=.aK (oC bG) bG.length/\gt ts 8=.int .i64 (bG.length:Int)/\gt ts 9=.int .i64 (i:Int)/\gt ts 12=.int .i64 (i:Int)/\gt ts 13=.int .i64 (j:Int)/\gt ts 16=.int .i64 (j:Int)/\gt ts 17=.int .i64 (k:Int)/\H=H1/\(k<=j)/\(H1[0]?=some (.cells .live [.aK (oC bG) bG.length]))/\(H1[b]?=some (.cells .live [.int .i64 (i:Int)]))) (j) ?_ ?_
 rotate_left
 ·refine⟨0,H,(by first|omega|rfl|simp),(by simp[bc,hl]),?_⟩;simp only[aZ,hl,aa,ae,g1,g3,g7,g8,g9,g12,g13]
  iterate 11 refine cG ?_
  refine⟨?_,?_,?_⟩
  ·first|omega|trivial
  ·first|exact h0|trivial
  ·first|exact hb|trivial
 clear hl g1 g3 g7 g8 g9 g12 g13 ts;rintro k_ ts H ⟨k,H1,rfl,hl,g1,g3,g4,g7,g8,g9,g12,g13,g16,g17,rfl,hk,h0,hb⟩;refine VS ?_;by_cases hd3:k<j
 rotate_left
 ·have d3:decide ((k:Int)<(j:Int))=false:=bj;simp only[↓aL,aM,↓reduceIte,aa,ae,hl,g13,g16,g17,d3,wj1];refine bK ?_;refine⟨_,?_,j+1,b,H,rfl,(by simp[bc,hl]),?_⟩
  ·first|omega|(simp;omega)
  simp only[aZ,hl,aa,ae,g1,g3,g7,g8,g9,g12]
  iterate 8 refine cG ?_
  refine⟨?_,?_,?_⟩
  ·omega
  ·exact h0
  ·exact hb
 have d3:decide ((k:Int)<(j:Int))=true:=bh;have qd:=wz (z:=(k:Int)+1) (m:=k+1);have nR:=(aKB.1 h0).1;have Jr:=(aKB.1 hb).1;have c0:∀{T:Hp},cellAt (H++T) 0 0=some (.aK (oC bG) bG.length):=by intro T;rw[bX,aNB nR,h0];rfl
 have cb:∀{T:Hp},cellAt (H++T) b 0=some (.int .i64 (i:Int)):=by intro T;rw[bX,aNB Jr,hb];rfl
 have c0':cellAt H 0 0=some (.aK (oC bG) bG.length):=by rw[bX,h0];rfl
 have D8:cellAt H b 0=some (.int .i64 (i:Int)):=by rw[bX,hb];rfl
 have pi:=mU (bG:=bG) (i:=i) hd;have pj:=mU (bG:=bG) (i:=j);have pk:=mU (bG:=bG) (i:=k);have ci:=eT (i:=i) (n:=bG.length) hd;have cj:=eT (i:=j) (n:=bG.length);have ckk:=eT (i:=k) (n:=bG.length);have s1:=j6 (E:=E) (hR.at j) (hR.at i);have s2:=j6 (E:=E) (hR.at k) (hR.at i);have x1:=s8 (E:=E) ((hR.at j).sub (hR.at i)) ((hR.at k).sub (hR.at i));have bN:=((hR.at j).sub (hR.at i)).Wb ((hR.at k).sub (hR.at i));generalize I3.cr (I3.sb (fh bG j) (fh bG i)) (I3.sb (fh bG k) (fh bG i))=N at x1 bN;have hq:∀{c:Bool},cd E c .eql 89 (.agg [.int .i64 N.x,.int .i64 N.y,.int .i64 N.z]) (.agg [.int .i64 0,.int .i64 0,.int .i64 0])=some (.bool (decide (N=I3.zr))):=fun{c}=>Pw (E:=E) (c:=c) (a:=N) (b:=I3.zr)
 simp only[v3]at s1 s2 x1 pi pj pk;have n1:(0==H.length)=false:=beq_eq_false_iff_ne.2 (by omega);have n2:(b==H.length)=false:=beq_eq_false_iff_ne.2 (by omega);have n3:(H.length==0)=false:=beq_eq_false_iff_ne.2 (by omega);have n4:(H.length==b)=false:=beq_eq_false_iff_ne.2 (by omega);by_cases hz:N=I3.zr
 ·rw[bh hz]at hq;simp only[↓aL,aM,↓aT,aJ,cH,↓reduceIte,aa,ah,ae,hl,g1,g3,g4,g16,g17,d3,qd,c0,cb,pi,pj,pk,ci,cj,ckk,s1,s2,x1,hq,n1,n2,eL];refine bK ?_;refine⟨_,?_,k+1,(H++[.cells .live [.int .i64 N.x,.int .i64 N.y,.int .i64 N.z]]),rfl,(by simp[bc,hl]),?_⟩
  ·first|omega|(simp;omega)
  simp only[aZ,hl,aa,ae,g1,g3,g4,g7,g8,g9,g12,g13,g16]
  iterate 11 refine cG ?_
  refine⟨?_,?_,?_⟩
  ·omega
  ·rw[aNB nR];exact h0
  ·rw[aNB Jr];exact hb
 rw[bj hz]at hq;obtain⟨r,hr,bb,rfl,-⟩:=oO (E:=E) .v .v (n:=bG.length) (g:=205) (cs:=oC bG) (caps:=[.cU (qg N) 0,.cU [kO bG] 0,.cU [.int .i64 (i:Int)] 0]) (el:=fun q=>v3 (fh bG q)) (p:=fun q=>alw bG N i (fh bG q)) (by omega) (bM C) pp (by simp[aV,aU,qg,kO,pp])
  (fun q hq=>mU hq) (fun q hq=>ae3 _) (fun q hq=>MH hR bN hd (hR.at q))
 obtain⟨u,fY⟩:∃u,qR false (H++[.cells .live [.int .i64 N.x,.int .i64 N.y,.int .i64 N.z]]) [.aK (oC bG) bG.length,.func 205 [] [.bI H.length 0,.bI 0 0,.bI b 0]]=some ([.aK (oC bG) bG.length,.func 205 [] [.cU (qg N) 0,.cU [kO bG] 0,.cU [.int .i64 (i:Int)] 0]],u):=by
  refine⟨_,k8 (m:=3) (eu.cons ((Fr.flat BG).up (by omega)) (eu.cons (Fr.func (eu.cons (Fr.hp (st:=.live) (cs:=qg N) (by simp[qg]) (by decide) (eu.flat ?_)) (eu.cons (Fr.hp (by rw[aNB nR];exact h0) (by decide) (eu.flat ?_)) (eu.cons (Fr.hp (by rw[aNB Jr];exact hb) (by decide) (eu.flat ?_)) eu.nil)))) eu.nil)) (by omega) (by simp[aV,aU])⟩
  ·intro c hc;simp only[qg,aMp,aVd,or_false]at hc;rcases hc with rfl|rfl|rfl<;>exact fE
  ·intro c hc;simp only[aMp,aVd,or_false]at hc;subst hc;exact BG
  ·intro c hc;simp only[aMp,aVd,or_false]at hc;subst hc;exact fE
 simp only[qg]at fY hr;simp only[↓aL,aM,↓aT,aJ,cH,↓reduceIte,aa,ah,ae,hl,g1,g3,g4,g16,g17,d3,c0,cb,pi,pj,pk,ci,cj,ckk,s1,s2,x1,hq,n1,n2,fY,hr,eL];exact⟨_,rfl⟩
def nA(l:List Nat):List AV:=l.map fun q=>.int .i64 ((q:Nat):Int)
def yA{N:I3}{p:Nat->I3}{x r:Nat}:∀(l:List Nat) (n:Option Nat),I3.Ab N p x l n=some r->r∈l∨n=some r
 |[],n,h=>.inr h
 |i::l,n,h=>by
  simp only[I3.Ab]at h;split at h
  ·rcases yA l n h with h|h;exact .inl (aNu _ h);exact .inr h
  ·cases n with
   |none=>
    rcases yA l _ h with h|h
    ·exact .inl (aNu _ h)
    ·injection h with h;subst h;exact .inl aNG
   |some m=>
    dsimp only at h
    split at h
    ·rcases yA l _ h with h|h
     ·exact .inl (aNu _ h)
     ·injection h with h;subst h;exact .inl aNG
    ·rcases yA l _ h with h|h;exact .inl (aNu _ h);exact .inr h
def nxV:Option Nat->Int
 |none=> -1
 |some q=>(q:Int)
def Tw{bG:List I3}{N:I3}{on:Nat}(hR:UH bG)(hI:UI bG)(hn:bG.length<=8)(hP:UK bG N on)(hon:on<2^bG.length):
  ∃r,aR E 160 [kO bG,.agg (yE (N,on))]=some r/\∃out:List Nat,r=lR (nA out) out.length/\out≠[]/\out.length<=8/\∀x∈out,x<bG.length:=by
 obtain⟨a,S0⟩:=OA hR hI hn hP;have aGS:on<256:=Nat.lt_of_lt_of_le hon (Nat.pow_le_pow_right (n:=2) (by omega) hn);refine pX aq2 ?_;intro ts hl g0 g1;unfold aoB;unfold kO at g0;simp only[yE]at g1;simp only[↓aL,aM,aJ,aa,ae,Tryz.f160,aB,hl,g1];refine cE (fun k_ ts H=>∃m v l H1,k_=m+1/\ts.length=101/\gt ts 0=.aK (oC bG) bG.length/\gt ts 3=.bI 0 0/\gt ts 5=v/\gt ts 6=.int .u64 (m:Int)/\H=H1/\(m<256)/\(mH on=l++mH m)/\(H1[0]?=some (.cells .live [.int .i64 N.x,.int .i64 N.y,.int .i64 N.z,.int .u64 ((on:Nat):Int)]))/\(uo 1 1 v H1 l.length (nA l))) (on+1) ?_ ?_
 rotate_left
 ·refine⟨on,.aH,[],[.cells .live [.int .i64 N.x,.int .i64 N.y,.int .i64 N.z,.int .u64 ((on:Nat):Int)]],(by first|omega|rfl|simp),(by simp[bc,hl]),?_⟩;simp only[aZ,hl,aa,ae,g0]
  iterate 5 refine cG ?_
  refine⟨?_,?_,?_,?_⟩
  ·first|omega|trivial
  ·first|rfl|trivial
  ·first|rfl|trivial
  ·first|exact .inl ⟨rfl,rfl,rfl⟩|trivial
 clear hl g0 g1 ts;rintro k_ ts H ⟨m,v,l,H1,rfl,hl,g0,g3,g5,g6,rfl,hm,hb,hH,hs⟩;refine VS ?_;by_cases h0:0<m
 ·have b0:((m:Int)!=0)=true:=by simp;omega
  obtain⟨e1,e2,e3⟩:=Ma hm h0;have ht:=aeZ (E:=E) hm h0;have w1:aW .u64 ((m:Int)-1)=((m-1:Nat):Int):=by rw[show(m:Int)-1=((m-1:Nat):Int)by omega];exact wrap_u64
  have ha:=fun{c:Bool} {t:Nat}=>IM (E:=E) (c:=c) (t:=t) (a:=m) (b:=m-1)
  have D9:∀aP,bQ E aP 67 1 [(0,.int .i64 ((tz m:Nat):Int))]=some (.aI aP 0 1 1 1,[(aP,.cells .live [.int .i64 ((tz m:Nat):Int)])]):=fun aP=>jJ Lg rfl (by decide) (by decide) rfl
  have hll:l.length<=8:=by
   have:=S0.len;rw[hb,aLk]at this;omega
  have h1:1<=H.length:=by have:=(aKB.1 hH).1;omega
  obtain⟨v',bJ,lB,xj,sG,oU⟩:=xN (E:=E) (H:=H) (x:=[.int .i64 ((tz m:Nat):Int)]) Lg (by decide) hs (by simp[nA]) rfl rfl (by unfold eU;omega) (by omega) h1;simp only[↓aL,aM,↓aT,aJ,aa,ae,hl,g5,g6,b0,ht,w1,ha,D9,dN,lB];generalize cC.app _ (cC.bJ bJ)=H3 at xj sG oU⊢;refine bK ?_;refine⟨_,?_,m&&&(m-1),v',l++[tz m],H3,rfl,(by simp[bc,hl]),?_⟩
  ·first|omega|(simp;omega)
  simp only[aZ,hl,aa,ae,g0,g3]
  iterate 5 refine cG ?_
  refine⟨?_,?_,?_,?_⟩
  ·omega
  ·rw[hb,e1];simp
  ·rw[sG 0 (by omega)];exact hH
  ·simpa[nA]using xj
 obtain rfl:m=0:=by omega
 have CV:l=mH on:=by rw[hb];simp[show mH 0=[]from by decide]
 have hhd:=S0.head;rw[<-CV]at S0 hhd;have hl0:0<l.length:=by cases l with
  |nil=>cases hhd
  |cons x r=>simp
 rcases hs with⟨e0,_,_⟩|⟨-,bo,bo1,bo2,rfl,hbo⟩
 ·omega
 have Im:∀{q:Nat} {T:Hp},q<l.length->cellAt (H++T) bo q=some (.int .i64 ((l.getD q 0:Nat):Int)):=by intro q T hq;rw[bX,aNB bo2,hbo];simp[nA,hq,aTc]
 have b0:(((0:Nat):Int)!=0)=false:=by decide
 have c0:(0<(l.length:Int))=True:=eq_true (by omega);have Ik:l.getD 0 0=a:=by
  cases l with
  |nil=>cases hhd
  |cons x r=>simpa using hhd
 have Jn:cellAt H bo 0=some (.int .i64 ((a:Nat):Int)):=by
  have:=Im (q:=0) (T:=[]) hl0
  rw[List.append_nil,Ik]at this;exact this
 have D9:∀aP,bQ E aP 67 1 [(0,.int .i64 ((a:Nat):Int))]=some (.aI aP 0 1 1 1,[(aP,.cells .live [.int .i64 ((a:Nat):Int)])]):=fun aP=>jJ Lg rfl (by decide) (by decide) rfl
 simp only[↓aL,aM,aJ,↓reduceIte,aa,ae,an,ar,aB,aE,hl,g5,g6,c0,Jn,D9,dN];obtain⟨HB,hHB⟩:∃HB,HB=H:=⟨_,rfl⟩;have W0:=I3.aBE (N:=N) (List.mem_of_mem_head? (by rw[hhd];rfl)) S0.ext;refine cE (fun k_ ts H=>∃out last w H1,k_=(9-out.length:Nat)/\ts.length=101/\gt ts 0=.aK (oC bG) bG.length/\gt ts 3=.bI 0 0/\gt ts 5=.aI bo 0 l.length 1 l.length/\gt ts 7=w/\H=H1/\(H1[0]?=some (.cells .live [.int .i64 N.x,.int .i64 N.y,.int .i64 N.z,.int .u64 ((on:Nat):Int)]))/\(H1[bo]?=some (.cells .live (nA l)))/\(uo 1 (bo+1) w H1 out.length (nA out))/\(out.getLast?=some last)/\(I3.Way N (fh bG) l out a last)/\(out.head?=some a)) (8) ?_ ?_
 rotate_left
 ·refine⟨[a],a,(.aI H.length 0 1 1 1),(H++[.cells .live [.int .i64 ((a:Nat):Int)]]),(by first|omega|rfl|simp),(by simp[bc,hl]),?_⟩;simp only[aZ,hl,aa,ae,g0,g3,g5]
  iterate 5 refine cG ?_
  refine⟨?_,?_,?_,?_,?_,?_⟩
  ·first|(rw[aNB (by omega)];exact hH)|trivial
  ·first|(rw[aNB bo2];exact hbo)|trivial
  ·first|(exact .inr ⟨by simp,H.length,by omega,by simp,rfl,by rw[List.getElem?_append_right (Nat.le_refl _)];simp[nA]⟩)|trivial
  ·first|rfl|trivial
  ·first|exact W0|trivial
  ·first|rfl|trivial
 clear hl g0 g3 g5 g6 ts;rintro k_ ts H ⟨out,last,w,H1,rfl,hl,g0,g3,g5,g7,rfl,hH,hbo,hs,atf,hW,as5⟩;refine VS ?_;have atg:out.length<=8:=Nat.le_trans hW.len S0.len;have AF:0<out.length:=List.length_pos_of_mem hW.ain;have Xk:out[out.length-1]?=some last:=by rw[<-List.getLast?_eq_getElem?];exact atf
 rcases hs with⟨e0,_,_⟩|⟨-,bw,bw1,bw2,rfl,hbw⟩
 ·omega
 have vQ:cellAt H bw (out.length-1)=some (.int .i64 ((last:Nat):Int)):=by rw[bX,hbw];simp[nA,Xk]
 have w2:=wz (z:=(out.length:Int)-1) (m:=out.length-1);have c2:=eT (i:=out.length-1) (n:=out.length);have asD:bo<H.length:=(aKB.1 hbo).1;have Im:∀{q:Nat} {T:Hp},q<l.length->cellAt (H++T) bo q=some (.int .i64 ((l.getD q 0:Nat):Int)):=by intro q T hq;rw[bX,aNB asD,hbo];simp[nA,hq,aTc]
 simp only[↓aL,aM,aJ,↓reduceIte,aa,ae,aB,hl,g5,g7,w2,c2,vQ];obtain⟨HO,rfl⟩:∃HO,HO=H:=⟨H,rfl⟩;refine AN (id:=4) (fun k_ ts H=>∃q:Nat,∃nx,∃H1,k_=(l.length-q:Nat)/\ts.length=101/\gt ts 0=.aK (oC bG) bG.length/\gt ts 3=.bI 0 0/\gt ts 5=.aI bo 0 l.length 1 l.length/\gt ts 7=.aI bw 0 out.length 1 out.length/\gt ts 8=.int .i64 (last:Int)/\gt ts 9=.int .i64 (nxV nx)/\gt ts 38=.aI bo 0 l.length 1 l.length/\gt ts 39=.int .i64 (l.length:Int)/\gt ts 40=.int .i64 (q:Int)/\H=H1/\(HO<+:H1)/\(q<=l.length)/\(I3.Ab N (fh bG) last (l.take q) none=nx)) (fun ts H=>∃q:Nat,∃nx,∃H1,ts.length=101/\gt ts 0=.aK (oC bG) bG.length/\gt ts 3=.bI 0 0/\gt ts 5=.aI bo 0 l.length 1 l.length/\gt ts 7=.aI bw 0 out.length 1 out.length/\gt ts 8=.int .i64 (last:Int)/\gt ts 9=.int .i64 (nxV nx)/\gt ts 38=.aI bo 0 l.length 1 l.length/\gt ts 39=.int .i64 (l.length:Int)/\gt ts 40=.int .i64 (q:Int)/\H=H1/\(HO<+:H1)/\(q<=l.length)/\(I3.Ab N (fh bG) last (l.take q) none=nx)/\(q=l.length)) (l.length) ?_ ?_ ?_
 rotate_left 2
 ·refine⟨0,none,HO,(by first|omega|rfl|simp),(by simp[bc,hl]),?_⟩;simp only[aZ,hl,aa,ae,g0,g3,g5,g7]
  iterate 10 refine cG ?_
  refine⟨?_,?_,?_⟩
  ·first|exact List.prefix_rfl|trivial
  ·first|omega|trivial
  ·first|rfl|trivial
 ·clear hl g0 g3 g5 g7 ts;rintro k_ ts H ⟨q,nx,H1,rfl,hl,g0,g3,g5,g7,g8,g9,CR,BH,g40,rfl,Bk,hq,wH⟩;refine VS ?_;by_cases hd:q<l.length
  rotate_left
  ·have d1:decide ((q:Int)<(l.length:Int))=false:=bj;simp only[↓aL,aM,aa,hl,BH,g40,d1];refine iX ?_;refine⟨q,nx,H,(by simp[bc,hl]),?_⟩;simp only[aZ,ae,g0,g3,g5,g7,g8,g9,CR,BH,g40]
   iterate 10 refine cG ?_
   refine⟨?_,?_,?_,?_⟩
   ·exact Bk
   ·omega
   ·exact wH
   ·omega
  have d1:decide ((q:Int)<(l.length:Int))=true:=bh;have cq:=eT (i:=q) (n:=l.length) hd;have aGC:=S0.len;have wq:=wz (z:=(q:Int)+1) (m:=q+1);obtain⟨T,hT⟩:=id Bk;have iV:=Im (q:=q) (T:=T) hd;rw[hT]at iV;have htk:l.take (q+1)=l.take q++[l.getD q 0]:=by rw[List.take_add_one,aLh hd,aTc,aLh hd];rfl
  have him:l.getD q 0∈l:=by rw[aTc,aLh hd];exact List.getElem_mem hd
  have MX:I3.Ab N (fh bG) last (l.take (q+1)) none=I3.Ab N (fh bG) last [l.getD q 0] nx:=by rw[htk,ru,wH]
  generalize l.getD q 0=i at iV him MX htk;have hip:=S0.lt i him;have aGB:=S0.len;have yY:=S0.lt last (hW.mo last hW.lin);by_cases LJ:i=last
  ·have b1:((i:Int)==(last:Int))=true:=by simp[LJ]
   simp only[↓aL,aM,aJ,↓reduceIte,aa,ae,hl,g8,CR,BH,g40,cq,wq,iV,b1];refine bK ?_;refine⟨_,?_,q+1,nx,H,rfl,(by simp[bc,hl]),?_⟩
   ·first|omega|(simp;omega)
   simp only[aZ,hl,aa,ae,g0,g3,g5,g7,g8,g9,CR,BH]
   iterate 10 refine cG ?_
   refine⟨?_,?_,?_⟩
   ·exact Bk
   ·omega
   ·rw[MX];simp[I3.Ab,LJ]
  have b1:((i:Int)==(last:Int))=false:=by
   have:(i:Int)≠(last:Int):=by omega
   simpa using this
  cases nx with
  |none=>
   have d2:decide (nxV none<0)=true:=by decide
   simp only[↓aL,aM,aJ,↓reduceIte,aa,ae,hl,g8,g9,CR,BH,g40,cq,wq,iV,b1,d2];refine bK ?_;refine⟨_,?_,q+1,some i,H,rfl,(by simp[bc,hl]),?_⟩
   ·first|omega|(simp;omega)
   simp only[aZ,hl,aa,ae,g0,g3,g5,g7,g8,CR,BH]
   iterate 10 refine cG ?_
   refine⟨?_,?_,?_⟩
   ·exact Bk
   ·omega
   ·rw[MX];simp[I3.Ab,LJ]
  |some m=>
   have d2:decide (nxV (some m)<0)=false:=bj (by show¬((m:Int)<0);omega);have Js:m∈l:=by
    rcases yA _ _ wH with h|h
    ·exact List.mem_of_mem_take h
    ·cases h
   have hmp:=S0.lt m Js;have pm:=mU (bG:=bG) hmp;have pl:=mU (bG:=bG) yY;have pi:=mU (bG:=bG) hip;have cm:=eT (i:=m) (n:=bG.length) hmp;have cl:=eT (i:=last) (n:=bG.length) yY;have ci:=eT (i:=i) (n:=bG.length) hip;have s1:=j6 (E:=E) (hR.at m) (hR.at last);have s2:=j6 (E:=E) (hR.at i) (hR.at last);have bu:=(hR.at m).sub (hR.at last);have bv:=(hR.at i).sub (hR.at last);have x1:=s8 (E:=E) bu bv;have y1:=qs (E:=E) hP.bN (bu.Wb bv);have y2:=qs (E:=E) (bv.mono (by omega)) (bv.mono (by omega));have y3:=qs (E:=E) (bu.mono (by omega)) (bu.mono (by omega));have mN:I3.pN N (fh bG last) (fh bG m) (fh bG i)->I3.Ab N (fh bG) last [i] (some m)=some i:=by intro hz;simp only[I3.Ab,if_neg LJ,if_pos hz]
   have sn:¬I3.pN N (fh bG last) (fh bG m) (fh bG i)->I3.Ab N (fh bG) last [i] (some m)=some m:=by intro hz;simp only[I3.Ab,if_neg LJ,if_neg hz]
   simp only[I3.pN,I3.tn,I3.q]at mN sn;simp only[v3]at s1 s2 x1 y1 y2 y3 pm pl pi;generalize I3.sb (fh bG m) (fh bG last)=u at*;generalize I3.sb (fh bG i) (fh bG last)=v at*;generalize I3.cr u v=cuv at*;generalize I3.dt N cuv=D at*;generalize I3.dt u u=du at*;generalize I3.dt v v=dv at*;have hN0:∀{x:Hp},eP 3 (H++x) 0 0=some (.agg [.int .i64 N.x,.int .i64 N.y,.int .i64 N.z]):=by intro x;rw[<-hT,List.append_assoc,dA,aNB (aKB.1 hH).1,hH];rfl
   have d2':nxV (some m)=(m:Int):=rfl;rw[d2']at g9 d2;by_cases hD:D<0
   ·have e1:decide (D<0)=true:=bh hD;simp only[↓aL,aM,↓aT,aJ,cH,↓reduceIte,aa,ah,ae,hl,g0,g3,g8,g9,CR,BH,g40,cq,wq,iV,b1,d2,pm,pl,pi,cm,cl,ci,s1,s2,x1,y1,hN0,e1,eL];refine bK ?_;refine⟨_,?_,q+1,some i,(H++[.cells .live [.int .i64 u.x,.int .i64 u.y,.int .i64 u.z],.cells .live [.int .i64 v.x,.int .i64 v.y,.int .i64 v.z]]),rfl,(by simp[bc,hl]),?_⟩
    ·first|omega|(simp;omega)
    simp only[aZ,hl,aa,ae,g0,g3,g5,g7,g8,CR,BH]
    iterate 10 refine cG ?_
    refine⟨?_,?_,?_⟩
    ·exact Bk.trans (aVe _ _)
    ·omega
    ·rw[MX];exact mN (.inl hD)
   have e1:decide (D<0)=false:=bj hD;by_cases hD0:D=0
   rotate_left
   ·have e2:(D==0)=false:=by simpa using hD0
    simp only[↓aL,aM,↓aT,aJ,cH,↓reduceIte,aa,ah,ae,hl,g0,g3,g8,g9,CR,BH,g40,cq,wq,iV,b1,d2,pm,pl,pi,cm,cl,ci,s1,s2,x1,y1,hN0,e1,e2,eL];refine bK ?_;refine⟨_,?_,q+1,some m,(H++[.cells .live [.int .i64 u.x,.int .i64 u.y,.int .i64 u.z],.cells .live [.int .i64 v.x,.int .i64 v.y,.int .i64 v.z]]),rfl,(by simp[bc,hl]),?_⟩
    ·first|omega|(simp;omega)
    simp only[aZ,hl,aa,ae,g0,g3,g5,g7,g8,g9,CR,BH]
    iterate 10 refine cG ?_
    refine⟨?_,?_,?_⟩
    ·exact Bk.trans (aVe _ _)
    ·omega
    ·rw[MX];exact sn (by omega)
   have e2:(D==0)=true:=by simpa using hD0
   by_cases hdv:du<dv
   ·have e3:decide (dv>du)=true:=bh hdv;simp only[↓aL,aM,↓aT,aJ,cH,↓reduceIte,aa,ah,ae,hl,g0,g3,g8,g9,CR,BH,g40,cq,wq,iV,b1,d2,pm,pl,pi,cm,cl,ci,s1,s2,x1,y1,y2,y3,hN0,e1,e2,e3,eL];refine bK ?_;refine⟨_,?_,q+1,some i,(H++[.cells .live [.int .i64 u.x,.int .i64 u.y,.int .i64 u.z],.cells .live [.int .i64 v.x,.int .i64 v.y,.int .i64 v.z]]),rfl,(by simp[bc,hl]),?_⟩
    ·first|omega|(simp;omega)
    simp only[aZ,hl,aa,ae,g0,g3,g5,g7,g8,CR,BH]
    iterate 10 refine cG ?_
    refine⟨?_,?_,?_⟩
    ·exact Bk.trans (aVe _ _)
    ·omega
    ·rw[MX];exact mN (.inr ⟨hD0,hdv⟩)
   ·have e3:decide (dv>du)=false:=bj hdv;simp only[↓aL,aM,↓aT,aJ,cH,↓reduceIte,aa,ah,ae,hl,g0,g3,g8,g9,CR,BH,g40,cq,wq,iV,b1,d2,pm,pl,pi,cm,cl,ci,s1,s2,x1,y1,y2,y3,hN0,e1,e2,e3,eL];refine bK ?_;refine⟨_,?_,q+1,some m,(H++[.cells .live [.int .i64 u.x,.int .i64 u.y,.int .i64 u.z],.cells .live [.int .i64 v.x,.int .i64 v.y,.int .i64 v.z]]),rfl,(by simp[bc,hl]),?_⟩
    ·first|omega|(simp;omega)
    simp only[aZ,hl,aa,ae,g0,g3,g5,g7,g8,g9,CR,BH]
    iterate 10 refine cG ?_
    refine⟨?_,?_,?_⟩
    ·exact Bk.trans (aVe _ _)
    ·omega
    ·rw[MX];exact sn (by omega)
 clear hl g0 g3 g5 g7 ts;rintro ts H ⟨q,nx,H1,hl,g0,g3,g5,g7,g8,g9,CR,BH,g40,rfl,Bk,hq,wH,hqe⟩;subst hqe;rw[List.take_length]at wH;obtain⟨r,hr,hrl,hrw⟩:=hW.next S0.pl (S0.two last);rw[wH]at hr;subst hr;obtain⟨T,hT⟩:=Bk;have atu:out[0]?=some a:=by rw[<-List.head?_eq_getElem?];exact as5
 have Jn:cellAt H bw 0=some (.int .i64 ((a:Nat):Int)):=by rw[<-hT,bX,aNB bw2,hbw];simp[nA,atu]
 have c0:(0<(out.length:Int))=True:=eq_true (by omega);have g9':gt ts 9=.int .i64 ((r:Nat):Int):=g9;have hsw:uo 1 (bo+1) (.aI bw 0 out.length 1 out.length) H out.length (nA out):=.inr ⟨AF,bw,bw1,by rw[<-hT,aLk];omega,rfl,by rw[<-hT,aNB bw2];exact hbw⟩;by_cases hra:r=a
 ·have b1:((r:Int)==(a:Int))=true:=by simp[hra]
  obtain⟨bs,fY⟩:=hsw.fz (by simp[nA]) (fun c hc=>by obtain⟨x,_,rfl⟩:=List.mem_map.1 hc;exact fE);rw[show aU (AV.aI bw 0 out.length 1 out.length)=false from rfl]at fY;simp only[↓aL,aM,aJ,↓reduceIte,aa,ae,an,ar,hl,g7,g9',c0,Jn,b1,fY];exact⟨out,rfl,fun e=>by rw[e]at AF;exact absurd AF (by simp),atg,fun x hx=>S0.lt x (hW.mo x hx)⟩
 have b1:((r:Int)==(a:Int))=false:=by
  have:(r:Int)≠(a:Int):=by omega
  simpa using this
 have hHl:bo+1<=H.length:=by rw[<-hT,aLk];omega
 have D9:∀aP,bQ E aP 67 1 [(0,.int .i64 ((r:Nat):Int))]=some (.aI aP 0 1 1 1,[(aP,.cells .live [.int .i64 ((r:Nat):Int)])]):=fun aP=>jJ Lg rfl (by decide) (by decide) rfl
 obtain⟨v',bJ,lB,xj,sG,oU⟩:=xN (E:=E) (H:=H) (x:=[.int .i64 ((r:Nat):Int)]) Lg (by decide) hsw (by simp[nA]) rfl rfl (by unfold eU;omega) (by omega) hHl;have Xa:=hrw hra;have ath:=Nat.le_trans Xa.len S0.len;rw[aLk,aLf,List.length_nil]at ath;simp only[↓aL,aM,aJ,↓reduceIte,aa,ae,an,ar,hl,g7,g9',c0,Jn,b1,D9,dN,lB];generalize cC.app _ (cC.bJ bJ)=H3 at xj sG oU⊢;refine bK ?_;refine⟨_,?_,out++[r],r,v',H3,rfl,(by simp[bc,hl]),?_⟩
 ·first|omega|(simp;omega)
 simp only[aZ,hl,aa,ae,g0,g3,g5]
 iterate 5 refine cG ?_
 refine⟨?_,?_,?_,?_,?_,?_⟩
 ·rw[sG 0 (by omega),<-hT,aNB (by omega)];exact hH
 ·rw[sG bo (by omega),<-hT,aNB asD];exact hbo
 ·simpa[nA]using xj
 ·simp
 ·exact Xa
 ·rw[List.head?_append,as5];rfl
inductive lf:Nat->Nat->Nat->Nat->Nat->Nat->Nat->Nat->Nat->Nat->Nat->Nat->Nat->Nat->Nat->Prop
 |x0:lf 4 251 287 252 255 256 257 258 310 289 288 254 253 212 168
 |x1:lf 5 242 282 243 246 247 248 249 309 286 285 245 244 209 161
def Sy{K u0 u1 u2 u3 u4 u5 u6 u7 u8 u9 vg sH sA sB:Nat}(I:lf K u0 u1 u2 u3 u4 u5 u6 u7 u8 u9 vg sH sA sB){b n kc a c g:Nat}{row:Nat->List AV}{mQ:List Nat}{H0:Hp}{cz:Nat->Nat->Int}(R:qS K row)(hg:bF E g=false)(hc:∀p q,p<n->q<n->aR E g [.agg (row p),.agg (row q)]=some (.int .i64 (cz p q)))
  (wF:SR H0 b row mQ) (sy:mQ.Perm (aN1 n)) (hn:n<=1000000) (EC:a<=c) (nu:c<=n):
  ∃r H',cR E u0 [.aI b 0 n K kc,.int .i64 (a:Int),.int .i64 (c:Int),.func g [] []] H0=some (r,H')/\pP b n row H0 r H':=by
 obtain⟨D,hD⟩:∃D,D=AV.aI b 0 n K kc:=⟨_,rfl⟩;have I0:=I;cases I
 all_goals
  have kU:=fun{dr st:Bool} {bl:List AV} {H:Hp} {k:AV->cC->Prop}=>kH (E:=E) (dr:=dr) (st:=st) (f:=g) (bl:=bl) (H:=H) (k:=k) hg
  have w0:aW .i64 ((a:Int)+1)=((a+1:Nat):Int):=by rw[wrap_i64];omega
  refine gi4 (fV C) (by rw[C.fn];first|with_reducible exact agj|with_reducible exact agi) (by decide) ?_;intro ts hl g0 g1 g2 g3;rw[<-hD]at g0
  first|unfold aiJ|unfold aiI
  simp only[↓aL,aM,aa,Tryz.f251,Tryz.f242,hl,g1,w0];refine cE (fun k_ ts H=>∃i js H1,k_=n+1-i/\ts.length=53/\gt ts 0=D/\gt ts 1=.int .i64 (a:Int)/\gt ts 2=.int .i64 (c:Int)/\gt ts 3=.func g [] []/\gt ts 8=.int .i64 (i:Int)/\H=H1/\(a+1<=i)/\(SR H1 b row js)/\(js.Perm (aN1 n))/\(HW b H0 H1)) (n+1-(a+1)) ?_ ?_
  rotate_left
  ·refine⟨a+1,mQ,H0,(by first|omega|rfl|simp),(by simp[bc,hl]),?_⟩;simp only[aZ,hl,aa,ae,g0,g1,g2,g3]
   iterate 6 refine cG ?_
   refine⟨?_,?_,?_,?_⟩
   ·first|omega|trivial
   ·first|exact wF|trivial
   ·first|exact sy|trivial
   ·first|exact HW.refl _ _|trivial
  clear hl g0 g1 g2 g3 ts;rintro k_ ts H ⟨i,js,H1,rfl,hl,g0,g1,g2,g3,g8,rfl,hi,hS,hp,hW⟩;refine VS ?_;by_cases hd:i<c
  rotate_left
  ·have dc:decide ((i:Int)<(c:Int))=false:=bj;simp only[↓aL,aM,↓reduceIte,aa,ae,hl,g2,g8,dc];exact⟨rfl,hW,js,hS,hp⟩
  have dc:decide ((i:Int)<(c:Int))=true:=bh;simp only[↓aL,aM,aa,ae,hl,g2,g8,dc];refine cE (fun k_ ts H=>∃j JJ H2,k_=j+1/\ts.length=53/\gt ts 0=D/\gt ts 1=.int .i64 (a:Int)/\gt ts 2=.int .i64 (c:Int)/\gt ts 3=.func g [] []/\gt ts 8=.int .i64 (i:Int)/\gt ts 9=.int .i64 (j:Int)/\H=H2/\(a<=j)/\(j<=i)/\(SR H2 b row JJ)/\(JJ.Perm (aN1 n))/\(HW b H0 H2)) (i+1) ?_ ?_
  rotate_left
  ·refine⟨i,js,H,(by first|omega|rfl|simp),(by simp[bc,hl]),?_⟩;simp only[aZ,hl,aa,ae,g0,g1,g2,g3,g8]
   iterate 7 refine cG ?_
   refine⟨?_,?_,?_,?_,?_⟩
   ·first|omega|trivial
   ·first|omega|trivial
   ·first|exact hS|trivial
   ·first|exact hp|trivial
   ·first|exact hW|trivial
  clear hl g0 g1 g2 g3 g8 ts;rintro k_ ts H ⟨j,JJ,H2,rfl,hl,g0,g1,g2,g3,g8,g9,rfl,hj,Bh,hS',hp',Xa⟩;refine VS ?_;have w1:aW .i64 ((i:Int)+1)=((i+1:Nat):Int):=by rw[wrap_i64];omega
  by_cases hja:a<j
  rotate_left
  ·have dj:decide ((j:Int)>(a:Int))=false:=bj;simp only[↓aL,aM,aJ,↓reduceIte,aa,ah,ae,hl,g1,g8,g9,dj,w1];refine bK ?_;refine⟨_,?_,i+1,JJ,H,rfl,(by simp[bc,hl]),?_⟩
   ·first|omega|(simp;omega)
   simp only[aZ,hl,aa,ae,g0,g1,g2,g3]
   iterate 6 refine cG ?_
   refine⟨?_,?_,?_,?_⟩
   ·omega
   ·exact hS'
   ·exact hp'
   ·exact Xa
  have dj:decide ((j:Int)>(a:Int))=true:=bh;have w2:aW .i64 ((j:Int)-1)=((j-1:Nat):Int):=by rw[wrap_i64];omega
  obtain⟨F1,F2,H3,p8,wI,vH,l1,l2,s1,s2,e3,oY,nQ,lN⟩:=kY R hS' hp' (i:=j) (j:=j-1) (by omega) (by omega);generalize JJ.getD j 0=p at*;generalize JJ.getD (j-1) 0=q at*;have c1:=eT (i:=j) (n:=n);have c2:=eT (i:=j-1) (n:=n);have Xg:=hc p q wI vH;have pr:=R.pure;by_cases hz:cz p q<0
  rotate_left
  ·have dz:decide (cz p q<0)=false:=bj hz;simp only[↓aL,aM,aJ,↓reduceIte,aa,ah,ae,hl,g0,hD,g1,g3,g8,g9,dj,w1,w2,l1,l2,c1,c2,kU,Xg,pr,dz];refine bK ?_;refine⟨_,?_,i+1,JJ,H,rfl,(by simp[bc,hl]),?_⟩
   ·first|omega|(simp;omega)
   simp only[aZ,hl,aa,ae,g0,g1,g2,g3]
   iterate 6 refine cG ?_
   refine⟨?_,?_,?_,?_⟩
   ·omega
   ·exact hS'
   ·exact hp'
   ·exact Xa
  have dz:decide (cz p q<0)=true:=bh hz;simp only[↓aL,aM,aJ,↓reduceIte,aa,ah,ae,hl,g0,hD,g1,g3,g9,dj,w2,l1,l2,c1,c2,kU,Xg,pr,dz,s1,s2,e3];refine bK ?_;refine⟨_,?_,j-1,p8,H3,rfl,(by simp[bc,hl]),?_⟩
  ·first|omega|(simp;omega)
  simp only[aZ,hl,aa,ae,g0,g1,g2,g3,g8]
  iterate 7 refine cG ?_
  refine⟨?_,?_,?_,?_,?_⟩
  ·omega
  ·omega
  ·exact oY
  ·exact lN
  ·exact Xa.trans nQ
def C8{K u0 u1 u2 u3 u4 u5 u6 u7 u8 u9 vg sH sA sB:Nat}(I:lf K u0 u1 u2 u3 u4 u5 u6 u7 u8 u9 vg sH sA sB){b n kc g:Nat}{row:Nat->List AV}{mQ:List Nat}{H0:Hp}{cz:Nat->Nat->Int}(R:qS K row)(hg:bF E g=false)(hc:∀p q,p<n->q<n->aR E g [.agg (row p),.agg (row q)]=some (.int .i64 (cz p q)))(wF:SR H0 b row mQ)(sy:mQ.Perm (aN1 n))(hn:n<=1000000){lo hi first:Nat}(ik:lo<=hi:=by omega)(hf:first+hi<=n:=by omega):
  ∃r H',cR E u1 [.aI b 0 n K kc,.int .i64 (lo:Int),.int .i64 (hi:Int),.int .i64 (first:Int),.func g [] []] H0=some (r,H')/\pP b n row H0 r H':=by
 obtain⟨D,hD⟩:∃D,D=AV.aI b 0 n K kc:=⟨_,rfl⟩;have I0:=I;cases I
 all_goals
  have kU:=fun{dr st:Bool} {bl:List AV} {H:Hp} {k:AV->cC->Prop}=>kH (E:=E) (dr:=dr) (st:=st) (f:=g) (bl:=bl) (H:=H) (k:=k) hg
  have pr:=R.pure;refine gi5 (fV C) (by rw[C.fn];first|with_reducible exact arZ|with_reducible exact arU) (by decide) ?_;intro ts hl g0 g1 g2 g3 g4;rw[<-hD]at g0
  first|unfold apC|unfold apx
  simp only[↓aL,aM,aa,Tryz.f287,Tryz.f282,hl,g1];refine cE (fun k_ ts H=>∃r js H1,k_=hi-r+0/\ts.length=82/\gt ts 0=D/\gt ts 1=.int .i64 (lo:Int)/\gt ts 2=.int .i64 (hi:Int)/\gt ts 3=.int .i64 (first:Int)/\gt ts 4=.func g [] []/\gt ts 10=.int .i64 (r:Int)/\H=H1/\(r<=hi)/\(SR H1 b row js)/\(js.Perm (aN1 n))/\(HW b H0 H1)) (hi-lo+0) ?_ ?_
  rotate_left
  ·refine⟨lo,mQ,H0,(by first|omega|rfl|simp),(by simp[bc,hl]),?_⟩;simp only[aZ,hl,aa,ae,g0,g1,g2,g3,g4]
   iterate 7 refine cG ?_
   refine⟨?_,?_,?_,?_⟩
   ·first|omega|trivial
   ·first|exact wF|trivial
   ·first|exact sy|trivial
   ·first|exact HW.refl _ _|trivial
  clear hl g0 g1 g2 g3 g4 ts;rintro k_ ts H ⟨r,js,H1,rfl,hl,g0,g1,g2,g3,g4,g10,rfl,hr,hS,hp,hW⟩;refine VS ?_;have w1:=wz (z:=2*(r:Int)) (m:=2*r);have w2:=wz (z:=((2*r:Nat):Int)+1) (m:=2*r+1);by_cases hch:2*r+1<hi
  rotate_left
  ·have d1:decide (((2*r+1:Nat):Int)≥(hi:Int))=true:=bh;simp only[↓aL,aM,↓reduceIte,aa,ae,hl,g2,g10,w1,w2,d1];exact⟨rfl,hW,js,hS,hp⟩
  have d1:decide (((2*r+1:Nat):Int)≥(hi:Int))=false:=bj;have w3:=wz (z:=((2*r+1:Nat):Int)+1) (m:=2*r+1+1);have w4:=wz (z:=(first:Int)+((2*r+1:Nat):Int)) (m:=first+(2*r+1));have w5:=wz (z:=((first+(2*r+1):Nat):Int)+1) (m:=first+(2*r+1)+1);by_cases h2:2*r+1+1<hi
  rotate_left
  ·have d2:decide (((2*r+1+1:Nat):Int)<(hi:Int))=false:=bj;obtain⟨Ui,la⟩:=FZ R hS hp (i:=first+r) (by omega);have lb:=la;have ca:=la;have cb:=la;have da:=la;have Im:=la;obtain⟨F1,F2,H3,p8,wI,vH,l1,l2,s1,s2,e3,oY,nQ,lN⟩:=kY R hS hp (i:=first+r) (j:=first+(2*r+1)) (by omega) (by omega);have c1:=eT (i:=first+r) (n:=n);have c2:=eT (i:=first+(2*r+1)) (n:=n);have w6:=wz (z:=(first:Int)+(r:Int)) (m:=first+r);have w7:=wz (z:=(first:Int)+((2*r+1:Nat):Int)) (m:=first+(2*r+1));have iV:=hc _ _ wI vH;generalize C2:cz (js.getD (first+r) 0) (js.getD (first+(2*r+1)) 0)=zz at iV;by_cases hz:zz<0
   ·have dz:decide (zz<0)=true:=bh hz;simp only[↓aL,aM,aJ,↓reduceIte,aa,ah,ae,hl,g0,hD,g2,g3,g4,g10,w1,w2,w3,w4,w6,d1,d2,da,l2,c1,c2,kU,iV,pr,dz,s1,s2,e3];refine bK ?_;refine⟨_,?_,2*r+1,p8,H3,rfl,(by simp[bc,hl]),?_⟩
    ·first|omega|(simp;omega)
    simp only[aZ,hl,aa,ae,g0,g1,g2,g3,g4]
    iterate 7 refine cG ?_
    refine⟨?_,?_,?_,?_⟩
    ·omega
    ·exact oY
    ·exact lN
    ·exact hW.trans nQ
   ·have dz:decide (zz<0)=false:=bj hz;simp only[↓aL,aM,aJ,↓reduceIte,aa,ah,ae,hl,g0,hD,g2,g3,g4,g10,w1,w2,w3,w4,w6,d1,d2,da,l2,c1,c2,kU,iV,pr,dz];exact⟨rfl,hW,js,hS,hp⟩
  have d2:decide (((2*r+1+1:Nat):Int)<(hi:Int))=true:=bh;obtain⟨Ui,la⟩:=FZ R hS hp (i:=first+(2*r+1)) (by omega);obtain⟨hpb,lb⟩:=FZ R hS hp (i:=first+(2*r+1)+1) (by omega);have ca:=eT (i:=first+(2*r+1)) (n:=n);have cb:=eT (i:=first+(2*r+1)+1) (n:=n);have Im:=hc _ _ Ui hpb;generalize hyy:cz (js.getD (first+(2*r+1)) 0) (js.getD (first+(2*r+1)+1) 0)=yy at Im;by_cases hza:yy<0
  ·have da:decide (yy<0)=true:=bh hza;obtain⟨F1,F2,H3,p8,wI,vH,l1,l2,s1,s2,e3,oY,nQ,lN⟩:=kY R hS hp (i:=first+r) (j:=first+(2*r+1+1)) (by omega) (by omega);have c1:=eT (i:=first+r) (n:=n);have c2:=eT (i:=first+(2*r+1+1)) (n:=n);have w6:=wz (z:=(first:Int)+(r:Int)) (m:=first+r);have w7:=wz (z:=(first:Int)+((2*r+1+1:Nat):Int)) (m:=first+(2*r+1+1));have iV:=hc _ _ wI vH;generalize C2:cz (js.getD (first+r) 0) (js.getD (first+(2*r+1+1)) 0)=zz at iV;by_cases hz:zz<0
   ·have dz:decide (zz<0)=true:=bh hz;simp only[↓aL,aM,aJ,↓reduceIte,aa,ah,ae,hl,g0,hD,g2,g3,g4,g10,w1,w2,w3,w4,w5,w6,w7,d1,d2,da,la,lb,ca,cb,l1,l2,c1,c2,kU,Im,iV,pr,dz,s1,s2,e3];refine bK ?_;refine⟨_,?_,2*r+1+1,p8,H3,rfl,(by simp[bc,hl]),?_⟩
    ·first|omega|(simp;omega)
    simp only[aZ,hl,aa,ae,g0,g1,g2,g3,g4]
    iterate 7 refine cG ?_
    refine⟨?_,?_,?_,?_⟩
    ·omega
    ·exact oY
    ·exact lN
    ·exact hW.trans nQ
   ·have dz:decide (zz<0)=false:=bj hz;simp only[↓aL,aM,aJ,↓reduceIte,aa,ah,ae,hl,g0,hD,g2,g3,g4,g10,w1,w2,w3,w4,w5,w6,w7,d1,d2,da,la,lb,ca,cb,l1,l2,c1,c2,kU,Im,iV,pr,dz];exact⟨rfl,hW,js,hS,hp⟩
  ·have da:decide (yy<0)=false:=bj hza;obtain⟨F1,F2,H3,p8,wI,vH,l1,l2,s1,s2,e3,oY,nQ,lN⟩:=kY R hS hp (i:=first+r) (j:=first+(2*r+1)) (by omega) (by omega);have c1:=eT (i:=first+r) (n:=n);have c2:=eT (i:=first+(2*r+1)) (n:=n);have w6:=wz (z:=(first:Int)+(r:Int)) (m:=first+r);have w7:=wz (z:=(first:Int)+((2*r+1:Nat):Int)) (m:=first+(2*r+1));have iV:=hc _ _ wI vH;generalize C2:cz (js.getD (first+r) 0) (js.getD (first+(2*r+1)) 0)=zz at iV;by_cases hz:zz<0
   ·have dz:decide (zz<0)=true:=bh hz;simp only[↓aL,aM,aJ,↓reduceIte,aa,ah,ae,hl,g0,hD,g2,g3,g4,g10,w1,w2,w3,w4,w5,w6,d1,d2,da,la,lb,ca,cb,l1,c1,kU,Im,iV,pr,dz,s1,s2,e3];refine bK ?_;refine⟨_,?_,2*r+1,p8,H3,rfl,(by simp[bc,hl]),?_⟩
    ·first|omega|(simp;omega)
    simp only[aZ,hl,aa,ae,g0,g1,g2,g3,g4]
    iterate 7 refine cG ?_
    refine⟨?_,?_,?_,?_⟩
    ·omega
    ·exact oY
    ·exact lN
    ·exact hW.trans nQ
   ·have dz:decide (zz<0)=false:=bj hz;simp only[↓aL,aM,aJ,↓reduceIte,aa,ah,ae,hl,g0,hD,g2,g3,g4,g10,w1,w2,w3,w4,w5,w6,d1,d2,da,la,lb,ca,cb,l1,c1,kU,Im,iV,pr,dz];exact⟨rfl,hW,js,hS,hp⟩
def M8{K u0 u1 u2 u3 u4 u5 u6 u7 u8 u9 vg sH sA sB:Nat}(I:lf K u0 u1 u2 u3 u4 u5 u6 u7 u8 u9 vg sH sA sB){b n kc g:Nat}{row:Nat->List AV}{mQ:List Nat}{H0:Hp}{cz:Nat->Nat->Int}(R:qS K row)(hg:bF E g=false)(hc:∀p q,p<n->q<n->aR E g [.agg (row p),.agg (row q)]=some (.int .i64 (cz p q)))(wF:SR H0 b row mQ)(sy:mQ.Perm (aN1 n))(hn:n<=1000000){a c:Nat}(EC:a<c)(nu:c<=n):
  ∃r H',cR E u2 [.aI b 0 n K kc,.int .i64 (a:Int),.int .i64 (c:Int),.func g [] []] H0=some (r,H')/\pP b n row H0 r H':=by
 obtain⟨D,hD⟩:∃D,D=AV.aI b 0 n K kc:=⟨_,rfl⟩;have I0:=I;cases I
 all_goals
  obtain⟨hi,rfl⟩:∃hi,c=a+hi:=⟨c-a,by omega⟩;have w0:=wz (z:=((a+hi:Nat):Int)-(a:Int)) (m:=hi);have w1:=wz (z:=(hi:Int)-1) (m:=hi-1);have q1:∀{cc:Bool} {t:Nat},cd E cc .quo t (.int .i64 ((hi-1:Nat):Int)) (.int .i64 2)=some (.int .i64 (((hi-1)/2:Nat):Int)):=fun{cc t}=>aek (d:=2)
  refine gi4 (fV C) (by rw[C.fn];first|with_reducible exact arL|with_reducible exact arE) (by decide) ?_;intro ts hl g0 g1 g2 g3;rw[<-hD]at g0
  first|unfold apo|unfold aph
  simp only[↓aL,aM,aa,ae,Tryz.f252,Tryz.f243,hl,g1,g2,w0,w1,q1];refine cE (fun k_ ts H=>∃m js H1,k_=m+1/\ts.length=60/\gt ts 0=D/\gt ts 3=.func g [] []/\gt ts 8=.int .i64 (a:Int)/\gt ts 9=.int .i64 0/\gt ts 10=.int .i64 (hi:Int)/\gt ts 11=.int .i64 ((m:Int)-1)/\H=H1/\(m<=hi)/\(SR H1 b row js)/\(js.Perm (aN1 n))/\(HW b H0 H1)) ((hi-1)/2+1+1) ?_ ?_
  rotate_left
  ·refine⟨(hi-1)/2+1,mQ,H0,(by first|omega|rfl|simp),(by simp[bc,hl]),?_⟩;simp only[aZ,hl,aa,ae,g0,g3]
   iterate 7 refine cG ?_
   refine⟨?_,?_,?_,?_⟩
   ·first|omega|trivial
   ·first|exact wF|trivial
   ·first|exact sy|trivial
   ·first|exact HW.refl _ _|trivial
  clear hl g0 g1 g2 g3 ts;rintro k_ ts H ⟨m,js,H1,rfl,hl,g0,g3,g8,g9,g10,g11,rfl,hm,hS,hp,hW⟩;refine VS ?_;by_cases hd:1<=m
  ·have d1:decide ((m:Int)-1≥0)=true:=bh;obtain⟨r,H2,hr,rfl,Bg,JJ,zK,G2⟩:=C8 (E:=E) (kc:=kc) I0 R hg hc hS hp hn (lo:=m-1) (hi:=hi) (first:=a);rw[show(((m-1:Nat):Int))=(m:Int)-1 by omega]at hr;have w2:aW .i64 ((m:Int)-1-1)=((m-1:Nat):Int)-1:=by rw[wrap_i64];omega
   simp only[↓aL,aM,↓aT,aJ,aa,ae,hl,g0,hD,g3,g8,g10,g11,d1,hr,w2];refine bK ?_;refine⟨_,?_,m-1,JJ,H2,rfl,(by simp[bc,hl]),?_⟩
   ·first|omega|(simp;omega)
   simp only[aZ,hl,aa,ae,g0,g3,g8,g9,g10]
   iterate 7 refine cG ?_
   refine⟨?_,?_,?_,?_⟩
   ·omega
   ·exact zK
   ·exact G2
   ·exact hW.trans Bg
  have d1:decide ((m:Int)-1≥0)=false:=bj;simp only[↓aL,aM,↓reduceIte,aa,ae,hl,g10,g11,d1,w1];refine cE (fun k_ ts H=>∃m2 js H1,k_=m2+1/\ts.length=60/\gt ts 0=D/\gt ts 3=.func g [] []/\gt ts 8=.int .i64 (a:Int)/\gt ts 9=.int .i64 0/\gt ts 12=.int .i64 ((m2:Int)-1)/\H=H1/\(m2<=hi)/\(SR H1 b row js)/\(js.Perm (aN1 n))/\(HW b H0 H1)) (hi+1) ?_ ?_
  rotate_left
  ·refine⟨hi,js,H,(by first|omega|rfl|simp),(by simp[bc,hl]),?_⟩;simp only[aZ,hl,aa,ae,g0,g3,g8,g9]
   iterate 6 refine cG ?_
   refine⟨?_,?_,?_,?_⟩
   ·first|omega|trivial
   ·first|exact hS|trivial
   ·first|exact hp|trivial
   ·first|exact hW|trivial
  clear hl g0 g3 g8 g9 g10 g11 ts;rintro k_ ts H ⟨m2,js,H1,rfl,hl,g0,g3,g8,g9,g12,rfl,Eb,hS,hp,hW⟩;refine VS ?_;by_cases lK:1<=m2
  ·have d2:decide ((m2:Int)-1≥0)=true:=bh;obtain⟨F1,F2,H3,p8,wI,vH,l1,l2,s1,s2,e3,oY,nQ,lN⟩:=kY R hS hp (i:=a) (j:=a+(m2-1)) (by omega) (by omega);have c1:=eT (i:=a) (n:=n);have c2:=eT (i:=a+(m2-1)) (n:=n);have w3:=wz (z:=(a:Int)+((m2:Int)-1)) (m:=a+(m2-1));obtain⟨r,H4,hr,rfl,hW4,js4,hS4,G3⟩:=C8 (E:=E) (kc:=kc) I0 R hg hc oY lN hn (lo:=0) (hi:=m2-1) (first:=a);rw[show(((m2-1:Nat):Int))=(m2:Int)-1 by omega,show(((0:Nat):Int))=0 from rfl]at hr;have w2:aW .i64 ((m2:Int)-1-1)=((m2-1:Nat):Int)-1:=by rw[wrap_i64];omega
   simp only[↓aL,aM,↓aT,aJ,↓reduceIte,aa,ah,ae,hl,g0,hD,g3,g8,g9,g12,d2,hr,w2,w3,c1,c2,l1,l2,s1,s2,e3];refine bK ?_;refine⟨_,?_,m2-1,js4,H4,rfl,(by simp[bc,hl]),?_⟩
   ·first|omega|(simp;omega)
   simp only[aZ,hl,aa,ae,g0,g3,g8,g9]
   iterate 6 refine cG ?_
   refine⟨?_,?_,?_,?_⟩
   ·omega
   ·exact hS4
   ·exact G3
   ·exact(hW.trans nQ).trans hW4
  have d2:decide ((m2:Int)-1≥0)=false:=bj;simp only[↓aL,aM,↓reduceIte,aa,hl,g12,d2];exact⟨rfl,hW,js,hS,hp⟩
def SD{K u0 u1 u2 u3 u4 u5 u6 u7 u8 u9 vg sH sA sB:Nat}(I:lf K u0 u1 u2 u3 u4 u5 u6 u7 u8 u9 vg sH sA sB){b n kc g:Nat}{row:Nat->List AV}{mQ:List Nat}{H0:Hp}{cz:Nat->Nat->Int}(R:qS K row)(hg:bF E g=false)(hc:∀p q,p<n->q<n->aR E g [.agg (row p),.agg (row q)]=some (.int .i64 (cz p q)))(wF:SR H0 b row mQ)(sy:mQ.Perm (aN1 n))(hn:n<=1000000){a c:Nat}(EC:a<c)(nu:c<=n):
  ∃r H',cR E u3 [.aI b 0 n K kc,.int .i64 (a:Int),.int .i64 (c:Int),.func g [] []] H0=some (r,H')/\pP b n row H0 r H':=by
 obtain⟨D,hD⟩:∃D,D=AV.aI b 0 n K kc:=⟨_,rfl⟩;have I0:=I;cases I
 all_goals
  have w0:=wz (z:=(c:Int)-1) (m:=c-1);refine gi4 (fV C) (by rw[C.fn];first|with_reducible exact arO|with_reducible exact arH) (by decide) ?_;intro ts hl g0 g1 g2 g3;rw[<-hD]at g0
  first|unfold aps|unfold apk
  simp only[↓aL,aM,aa,ae,Tryz.f255,Tryz.f246,hl,g1,g2,w0];refine cE (fun k_ ts H=>∃i j js H1,k_=j+n-i/\ts.length=34/\gt ts 0=D/\gt ts 8=.int .i64 (i:Int)/\gt ts 9=.int .i64 (j:Int)/\H=H1/\(i<=n)/\(j<n)/\(SR H1 b row js)/\(js.Perm (aN1 n))/\(HW b H0 H1)) (c-1+n-a) ?_ ?_
  rotate_left
  ·refine⟨a,c-1,mQ,H0,(by first|omega|rfl|simp),(by simp[bc,hl]),?_⟩;simp only[aZ,hl,aa,ae,g0]
   iterate 4 refine cG ?_
   refine⟨?_,?_,?_,?_,?_⟩
   ·first|omega|trivial
   ·first|omega|trivial
   ·first|exact wF|trivial
   ·first|exact sy|trivial
   ·first|exact HW.refl _ _|trivial
  clear hl g0 g1 g2 g3 ts;rintro k_ ts H ⟨i,j,js,H1,rfl,hl,g0,g8,g9,rfl,hi,hj,hS,hp,hW⟩;refine VS ?_;by_cases hd:i<j
  rotate_left
  ·have d1:decide ((i:Int)<(j:Int))=false:=bj;simp only[↓aL,aM,↓reduceIte,aa,ae,hl,g8,g9,d1];exact⟨rfl,hW,js,hS,hp⟩
  have d1:decide ((i:Int)<(j:Int))=true:=bh;obtain⟨F1,F2,H3,p8,wI,vH,l1,l2,s1,s2,e3,oY,nQ,lN⟩:=kY R hS hp (i:=i) (j:=j) (by omega) (by omega);have c1:=eT (i:=i) (n:=n);have c2:=eT (i:=j) (n:=n);have w1:=wz (z:=(i:Int)+1) (m:=i+1);have w2:=wz (z:=(j:Int)-1) (m:=j-1);simp only[↓aL,aM,aJ,↓reduceIte,aa,ah,ae,hl,g0,hD,g8,g9,d1,w1,w2,c1,c2,l1,l2,s1,s2,e3];refine bK ?_;refine⟨_,?_,i+1,j-1,p8,H3,rfl,(by simp[bc,hl]),?_⟩
  ·first|omega|(simp;omega)
  simp only[aZ,hl,aa,ae,g0]
  iterate 4 refine cG ?_
  refine⟨?_,?_,?_,?_,?_⟩
  ·omega
  ·omega
  ·exact oY
  ·exact lN
  ·exact hW.trans nQ
end Go.Proofs.YtmkjgfnicfpjpaaGreatDoor
