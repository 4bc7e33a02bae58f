/- A part of the proof that PairRefuses returns true for every input; no condition of its own. -/
import Derived.Test.YtblnjkjjedanaaaGreatDoorTaq
set_option linter.all false
set_option maxHeartbeats 100000000
set_option maxRecDepth 100000
open List renaming getD_eq_getElem?_getD->aSW,getElem?_append_left->aOB,getElem?_eq_getElem->aMh,getElem?_append_right->aUV,length_append->aMk,length_cons->aMn,length_take->aMp,take_succ_cons->aQo,length_map->aOT,replicate->aK6,append_assoc->aS1,take_succ_eq_append_getElem->aUY,length_nil->aP3,length_set->aPp,drop_succ_cons->aQp,replicate_succ->aQf,set_cons_zero->aU2,zipWith->aU3,getElem?_set_self->aOc,take_zero->aRh,length_replicate->aU5,all_cons->aOV,length_zipWith->aU6,cons_append->aP4,getElem_mem->aMo,take_length->aR7
open Nat renaming add_sub_cancel_left->aUW,lt_of_le_of_lt->aR2,gcd_dvd_left->aUX,gcd->aUZ,gcd_eq_zero_iff->aU0,gcd_pos_of_pos_left->aU4,le_of_dvd->aUc,pos_of_ne_zero->aSh,gcd_zero_left->aU7,reduceLT->aa,reduceEqDiff->ae,reduceAdd->ah,reduceLeDiff->ai,reduceBEq->aj,reduceMul->ak
open Int renaming natAbs_natCast->aTX,natAbs_eq_zero->aU1,reduceLE->an,reduceLT->ao,reduceToNat->aq,reduceAdd->aA,reduceBNe->aE
open Option renaming getD_some->aNt
open Rat renaming divInt->aTV
open Bool renaming and_self->aRg,false_eq_true->aLs
namespace Go.Proofs.YtblnjkjjedanaaaGreatDoor
open Go Dv Dv.bV
variable{E:Env}[C:Ctx E]
def bC(q:Rat):List UInt8:=if q.den=1 then Lib.itoa q.num else Lib.itoa q.num++[47]++Lib.itoa (q.den:Int)
theorem Ld{z:Int}{k:Nat}(h:z.natAbs<2^k)(hk:0<k):(Lib.itoa z).length<=k+1:=by
 have h1:∀n:Nat,n<2^k->(Lib.decDigits n).length<=k:=by intro n hn;rw[Lib.decDigits_length];exact uQ _ _ hk (Nat.lt_of_lt_of_le hn (Nat.pow_le_pow_left (by decide) _))
 unfold Lib.itoa
 split
 ·have:=h1 z.natAbs h
  simp only[aMn];omega
 ·have:=h1 z.toNat (by omega)
  omega
theorem iQ{v:AV}{q:Rat}(h:cX v q){k:Nat}(b:Bq k q)(hk:k<=100000000000):aO E 19 [v]=some (.str (bC q)):=by
 refine ep ?_;have hw:=nf (E:=E) h b hk;obtain⟨na,ma,nb,mb,l,l',rfl,h1,hm,kM,h2⟩:=bR h;have ht:=HV (E:=E) h1 (eM b.1 (by omega));have b1:=Ld b.1 b.pos;have b2:=Ld (z:=(q.den:Int)) (k:=k) (by rw[aTX];exact b.2) b.pos;refine mO au3 ?_;intro ts hl g0;unfold c19 bC;by_cases hd:q.den=1
 ·rw[cF hd]at hw;rw[if_pos hd];simp only[↓aQ,aR,↓aT,aK,↓reduceIte,aa,ah,ae,Tryz.f19,ai,hl,g0,aL hm,aL kM,hw,ht]
 ·rw[cH hd]at hw;rw[if_neg hd];have h3:fk (.agg [.bool nb,mb]) (q.den:Int):=by
   rcases h2 with⟨_,h2⟩|h2
   ·exact absurd h2 hd
   ·exact h2
  have J4:=HV (E:=E) h3 (fF b.2 (by omega));have a1:∀{c:Bool} {t:Nat},dy E c .add t (.str (Lib.itoa q.num)) (.str [47])=some (.str (Lib.itoa q.num++[47])):=by intro c t;refine C0 ?_;simp only[aMn,aP3];omega
  have a2:∀{c:Bool} {t:Nat},dy E c .add t (.str (Lib.itoa q.num++[47])) (.str (Lib.itoa (q.den:Int)))=some (.str (Lib.itoa q.num++[47]++Lib.itoa (q.den:Int))):=by intro c t;refine C0 ?_;simp only[aMk,aMn,aP3];omega
  simp only[↓aQ,aR,↓aT,aK,↓reduceIte,aa,ah,ae,Tryz.f19,ai,hl,g0,aL hm,aL kM,hw,ht,J4,a1,a2]
theorem mV{v:AV}{a:V3}(h:fS v a){k:Nat}(b:BV k a)(hk:k<=100000000000):aO E 32 [v]=some (.agg [.str (bC a.x),.str (bC a.y),.str (bC a.z)]):=by
 refine ep ?_;obtain⟨n0,m0,n1,m1,n2,m2,n3,m3,n4,m4,n5,m5,rfl,a1,a2,a3,P,O⟩:=cD h;have c1:=iQ (E:=E) a1 b.1 hk;have c2:=iQ (E:=E) a2 b.2.1 hk;have c3:=iQ (E:=E) a3 b.2.2 hk;refine mO avb ?_;intro ts hl g0;unfold c32;simp only[↓aQ,aR,aK,↓reduceIte,aa,ah,ae,Tryz.f32,hl,g0];refine gb 4 ?_
 simp(maxSteps:=1000000)only[↓aQ,aR,↓aT,aK,↓reduceIte,aa,ah,ak,ae,an,ao,aq,ai,aA,hl,P,O,c1,c2,c3,AF,MP,Rt]
theorem kn{s:List UInt8}(hs:s.length<=4611686018427387904):∃r,aO E 39 [.str s]=some (.tuple [r,.int .i64 (dY 65536 s)])/\cX r (if dY 65536 s=0 then gY s else 0):=by
 obtain⟨r,hr,ir⟩:=Ta (E:=E) (L:=65536) hs (by omega)
 suffices hh:∃u,aO E 39 [.str s]=some u/\u=.tuple [r,.int .i64 (dY 65536 s)]by
  obtain⟨u,h1,rfl⟩:=hh;exact⟨r,h1,ir⟩
 obtain⟨na,ma,nb,mb,l,l',rfl,h1,hm,kM,h2⟩:=bR ir;refine mO avg ?_;intro ts hl g0;unfold c39;simp only[↓aQ,aR,↓aT,aK,↓reduceIte,aa,ah,ae,Tryz.f39,hl,g0,hr,aL hm,aL kM,(aY hm).2,(aY kM).2]
def yB(L:Int)(s0 s1 s2:List UInt8):Int:=if dY L s0≠0 then dY L s0 else if dY L s1≠0 then dY L s1 else dY L s2
def fN(L:Int)(s0 s1 s2:List UInt8):V3:=if yB L s0 s1 s2=0 then⟨gY s0,gY s1,gY s2⟩else v0
theorem PW{f:Nat}{L:Int}(hf:cg E f=false){s0 s1 s2:List UInt8}(h0:s0.length<=4611686018427387904)(h1:s1.length<=4611686018427387904)(h2:s2.length<=4611686018427387904)
  (hr:∀s:List UInt8,s.length<=4611686018427387904->∃r,aO E f [.str s]=some (.tuple [r,.int .i64 (dY L s)])/\cX r (if dY L s=0 then gY s else 0)):
  ∃r,aO E 72 [.agg [.str s0,.str s1,.str s2],.func f [] []]=some (.tuple [r,.int .i64 (yB L s0 s1 s2)])/\fS r (fN L s0 s1 s2):=by
 suffices hh:∃u,aO E 72 [.agg [.str s0,.str s1,.str s2],.func f [] []]=some u/\∃r,u=.tuple [r,.int .i64 (yB L s0 s1 s2)]/\fS r (fN L s0 s1 s2)by
  obtain⟨u,h1,r,rfl,h2⟩:=hh;exact⟨r,h1,h2⟩
 obtain⟨r1,c1,d1⟩:=hr s0 h0;obtain⟨r2,c2,d2⟩:=hr s1 h1;obtain⟨r3,c3,d3⟩:=hr s2 h2;obtain⟨i0,j0,i1,j1,_,_,rfl,-,-,-,-⟩:=bR d1;obtain⟨i2,j2,i3,j3,_,_,rfl,-,-,-,-⟩:=bR d2;obtain⟨i4,j4,i5,j5,_,_,rfl,-,-,-,-⟩:=bR d3;have D1:=aU _ d1;have D2:=aU _ d2;have D3:=aU _ d3;have wH:=fun{dr st:Bool} {bl:List AV} {H:Hp} {k:AV->cJ->Prop}=>lu (E:=E) (dr:=dr) (st:=st) (f:=f) (bl:=bl) (H:=H) (k:=k) hf
 refine tS avH ?_;intro ts hl g0 g1;unfold c72 fN yB;generalize dY L s0=e0 at*;generalize dY L s1=e1 at*;generalize dY L s2=e2 at*;simp only[↓aQ,aR,aK,↓reduceIte,aa,ah,ae,Tryz.f72,hl,g0];refine gb 4 ?_;by_cases z0:e0=0
 ·subst z0;by_cases z1:e1=0
  ·subst z1;by_cases z2:e2=0
   ·subst z2
    simp(maxSteps:=1000000)only[↓aQ,aR,aK,↓reduceIte,aa,ah,ak,ae,an,ao,aq,ai,aA,aE,hl,g1,D1,D2,D3,wH,c1,c2,c3,AF,MP,Rt]
    refine⟨_,rfl,?_⟩;simp only[not_true_eq_false,if_false,if_true]at d1 d2 d3⊢;exact⟨_,_,_,_,_,_,_,_,_,_,_,_,rfl,d1,d2,d3⟩
   ·have ez:(e2 !=0)=true:=bne_iff_ne.2 z2
    simp(maxSteps:=1000000)only[↓aQ,aR,aK,↓reduceIte,aa,ah,ak,ae,an,ao,aq,ai,aA,aE,hl,g1,D1,D2,D3,wH,c1,c2,c3,AF,MP,ez]
    refine⟨_,rfl,?_⟩;simp only[not_true_eq_false,if_false,z2];exact CW
  ·have ey:(e1 !=0)=true:=bne_iff_ne.2 z1
   simp(maxSteps:=1000000)only[↓aQ,aR,aK,↓reduceIte,aa,ah,ak,ae,an,ao,aq,ai,aA,aE,hl,g1,D1,D2,wH,c1,c2,AF,ey]
   refine⟨_,by simp[z1];rfl,?_⟩;simp only[not_true_eq_false,if_false,z1,not_false_eq_true,if_true];exact CW
 ·have ex:(e0 !=0)=true:=bne_iff_ne.2 z0
  simp(maxSteps:=1000000)only[↓aQ,aR,aK,↓reduceIte,aa,ah,ae,an,ao,aq,hl,g1,D1,wH,c1,ex]
  refine⟨_,by simp[z0];rfl,?_⟩;simp only[if_false,z0,not_false_eq_true,if_true];exact CW
theorem eu{s0 s1 s2:List UInt8}(h0:s0.length<=4611686018427387904)(h1:s1.length<=4611686018427387904)(h2:s2.length<=4611686018427387904):
  ∃r,aO E 35 [.agg [.str s0,.str s1,.str s2]]=some (.tuple [r,.int .i64 (yB 65536 s0 s1 s2)])/\fS r (fN 65536 s0 s1 s2):=by
 obtain⟨r,hr,ir⟩:=PW (E:=E) (f:=39) (L:=65536) (cn C (by kernel_rfl)) h0 h1 h2 (fun s hs=>kn (E:=E) hs)
 suffices hh:∃u,aO E 35 [.agg [.str s0,.str s1,.str s2]]=some u/\u=.tuple [r,.int .i64 (yB 65536 s0 s1 s2)]by
  obtain⟨u,h1,rfl⟩:=hh;exact⟨r,h1,ir⟩
 obtain⟨n0,m0,n1,m1,n2,m2,n3,m3,n4,m4,n5,m5,rfl,-,-,-,P,O⟩:=cD ir;refine mO avd ?_;intro ts hl g0;unfold c35;simp only[↓aQ,aR,↓aT,aK,↓reduceIte,aa,ah,ae,Tryz.f35,hl,g0,hr,P,O]
theorem FC{x y z:Int}(hx: -9223372036854775808<=x)(hx':x<9223372036854775808)(hy: -9223372036854775808<=y)(hy':y<9223372036854775808)(hz: -9223372036854775808<=z)(hz':z<9223372036854775808):
  ∃r,aO E 68 [.agg [.int .i64 x,.int .i64 y,.int .i64 z]]=some r/\fS r ⟨x,y,z⟩:=by
 obtain⟨r1,c1,d1⟩:=jJ (E:=E) hx hx';obtain⟨r2,c2,d2⟩:=jJ (E:=E) hy hy';obtain⟨r3,c3,d3⟩:=jJ (E:=E) hz hz';obtain⟨i0,j0,i1,j1,_,_,rfl,-,-,-,-⟩:=bR d1;obtain⟨i2,j2,i3,j3,_,_,rfl,-,-,-,-⟩:=bR d2;obtain⟨i4,j4,i5,j5,_,_,rfl,-,-,-,-⟩:=bR d3;have D1:=aU _ d1;have D2:=aU _ d2;have D3:=aU _ d3;refine mO avE ?_;intro ts hl g0;unfold c68;simp only[↓aQ,aR,aK,↓reduceIte,aa,ah,ae,Tryz.f68,hl,g0];refine gb 4 ?_
 simp(maxSteps:=1000000)only[↓aQ,aR,↓aT,aK,↓reduceIte,aa,ah,ak,ae,an,ao,aq,ai,aA,hl,D1,D2,D3,c1,c2,c3,AF,MP,Rt]
 exact⟨_,_,_,_,_,_,_,_,_,_,_,_,rfl,d1,d2,d3⟩
theorem xP{v w:AV}{a b:Int}(h:fk v a)(k:fk w b)(fa:Fit a)(fb:Fit b)(hb:b≠0):
  ∃r,aO E 107 [v,w]=some (.tuple [r,.int .i64 0])/\cX r (aTV a b):=by
 obtain⟨r,hr,ir⟩:=qS (E:=E) h k fa fb hb
 suffices hh:∃u,aO E 107 [v,w]=some u/\u=.tuple [r,.int .i64 0]by
  obtain⟨u,h1,rfl⟩:=hh;exact⟨r,h1,ir⟩
 have tE:=jX C k;have M4:(xd b==0)=false:=by
  unfold xd;rw[if_neg hb]
  split<;>rfl
 obtain⟨na,m,l,rfl,hm,-,-,-⟩:=id h;obtain⟨nb,m',l',rfl,kM,-,-,-⟩:=id k;obtain⟨i0,j0,i1,j1,_,_,rfl,-,-,-,-⟩:=bR ir;have D:=aU _ ir;refine tS amJ ?_;intro ts hl g0 g1;unfold alA;simp only[↓aQ,aR,↓aT,aK,↓reduceIte,aa,ah,ae,Tryz.f107,hl,g0,g1,tE,M4,hr,aL hm,aL kM,D]
def lc(a b:Nat):Nat:=a/aUZ a b*b
theorem EG{a b:Nat}(ha:0<a)(hb:0<b):0<lc a b:=Nat.mul_pos (Nat.div_pos (aUc ha (aUX _ _)) (aU4 _ ha)) hb
theorem zV{a b k l:Nat}(ha:a<2^k)(hb:b<2^l):lc a b<2^(k+l):=by unfold lc;rw[Nat.pow_add];exact Nat.mul_lt_mul'' (aR2 (Nat.div_le_self _ _) ha) hb
theorem Bs{n:Bool}{m:AV}{D:Nat}{x:AV}{q:Rat}(hD:fk (.agg [.bool n,m]) (D:Int))(hx:cX x q){k l:Nat}(b1:D<2^k)(b2:Bq l q)(hD0:0<D)(hk:k+l<=100000000000):
  ∃d g nq mq nr mr nm mm,aO E 105 [x]=some d/\aO E 104 [.agg [.bool n,m],d]=some g/\aO E 103 [.agg [.bool n,m],g]=some (.tuple [.agg [.bool nq,mq],.agg [.bool nr,mr],.int .i64 0])/\aO E 106 [.agg [.bool nq,mq],d]=some (.agg [.bool nm,mm])/\
  aN d=true/\aN g=true/\(aN mq=true/\b7 mq=true)/\(aN mr=true/\b7 mr=true)/\(aN mm=true/\b7 mm=true)/\fk (.agg [.bool nm,mm]) ((lc D q.den:Nat):Int):=by
 have QH:=jA q;obtain⟨d,hd,CN⟩:=mF (E:=E) hx;have f1:=fF b1 (by omega);have f2:=fF b2.2 (by omega);obtain⟨g,hg,ig⟩:=tR (E:=E) hD CN f1 f2;rw[Int.gcd_natCast_natCast]at ig;have hgp:0<aUZ D q.den:=aU4 _ hD0;have fg:Fit ((aUZ D q.den:Nat):Int):=fF (aR2 (aUc hD0 (aUX _ _)) b1) (by omega);obtain⟨y,r,QG,iy,ir⟩:=nF (E:=E) hD ig f1 fg (by omega) (Int.natCast_dvd_natCast.2 (aUX _ _));rw[<-Int.natCast_ediv]at iy;obtain⟨z,hz,iz⟩:=k7 C iy CN (fF (aR2 (Nat.div_le_self _ _) b1) (by omega)) f2;rw[<-Int.natCast_mul]at iz;have pd:=dz CN;have pg:=dz ig;obtain⟨nq,mq,lq,rfl,hmq,-,-,-⟩:=id iy;obtain⟨nr,mr,lr,rfl,hmr,-,-,-⟩:=id ir;obtain⟨nm,mm,lm,rfl,T8,-,-,-⟩:=id iz;exact⟨d,g,nq,mq,nr,mr,nm,mm,hd,hg,QG,hz,pd,pg,⟨aL hmq,(aY hmq).2⟩,⟨aL hmr,(aY hmr).2⟩,⟨aL T8,(aY T8).2⟩,iz⟩
theorem zJ{n:Bool}{m:AV}{D:Nat}{x:AV}{q:Rat}(hD:fk (.agg [.bool n,m]) (D:Int))(hx:cX x q){k l:Nat}(b1:D<2^k)(b2:Bq l q)(hk:k+l<=100000000000):
  ∃d nm mm,aO E 108 [x]=some d/\aO E 104 [.agg [.bool n,m],d]=some (.agg [.bool nm,mm])/\aN d=true/\(aN mm=true/\b7 mm=true)/\fk (.agg [.bool nm,mm]) ((aUZ D q.num.natAbs:Nat):Int):=by
 obtain⟨d,hd,CN⟩:=Xe (E:=E) hx;obtain⟨g,hg,ig⟩:=tR (E:=E) hD CN (fF b1 (by omega)) (eM b2.1 (by omega));have pd:=dz CN;obtain⟨nm,mm,lm,rfl,T8,-,-,-⟩:=id ig;exact⟨d,nm,mm,hd,hg,pd,⟨aL T8,(aY T8).2⟩,ig⟩
def pD(a:V3):Nat:=lc (lc (lc 1 a.x.den) a.y.den) a.z.den
def pW(a:V3):V3:=eE (pD a:Rat) a
def pG(a:V3):Nat:=aUZ (aUZ (aUZ 0 (pW a).x.num.natAbs) (pW a).y.num.natAbs) (pW a).z.num.natAbs
def mW(a:V3):V3:=eE (aTV 1 (pG a)) (pW a)
theorem BV.scale{k l:Nat}{q:Rat}{a:V3}(h:Bq k q)(ha:BV l a):BV (k+l) (eE q a):=⟨h.mul ha.1,h.mul ha.2.1,h.mul ha.2.2⟩
theorem Q4{k:Nat}{a:V3}(h:BV k a):pD a<2^(3*k+1):=by have h1:=zV (zV (zV (show 1<2^1 by decide) h.1.2) h.2.1.2) h.2.2.2;exact lE h1 (by omega)
theorem Xq(a:V3):0<pD a:=EG (EG (EG (by omega) (jA _)) (jA _)) (jA _)
theorem Jv{k:Nat}{a:V3}(h:BV k a):BV (4*k+1) (pW a):=by have h1:Bq (3*k+1) (pD a:Rat):=Bq.int (z:=(pD a:Int)) (by rw[aTX];exact Q4 h) (by omega);exact(BV.scale h1 h).mono (by omega)
theorem aqQ{a:V3}(h:a≠v0):¬((pW a).x.num=0/\(pW a).y.num=0/\(pW a).z.num=0):=by
 rintro⟨h1,h2,h3⟩;have hd:(pD a:Rat)≠0:=by
  have:=Xq a
  intro e
  have:=Rat.natCast_inj.1 (show((pD a:Nat):Rat)=((0:Nat):Rat)from e)
  omega
 have e:∀q:Rat,((pD a:Rat)*q).num=0->q=0:=by
  intro q hq;rcases Rat.mul_eq_zero.1 (Rat.num_eq_zero.1 hq)with h|h
  ·exact absurd h hd
  ·exact h
 refine h ?_;obtain⟨x,y,z⟩:=a;simp only[v0,V3.mk.injEq];exact⟨e x h1,e y h2,e z h3⟩
theorem Pd{a:V3}(h:a≠v0):0<pG a:=by
 refine aSh fun e=>aqQ h ?_
 unfold pG at e;have e1:=aU0.1 e;have e2:=aU0.1 e1.1;have e3:=aU0.1 e2.1;exact⟨aU1.1 e3.2,aU1.1 e2.2,aU1.1 e1.2⟩
theorem BR(z:Int):aTV z 1=(z:Rat):=by
 have:=Rat.num_divInt_den (z:Rat)
 rw[Rat.num_intCast,Rat.den_intCast]at this;exact this
theorem wE{a b k:Nat}(ha:a<2^k)(hb:b<2^k):aUZ a b<2^k:=by
 by_cases h:a=0
 ·subst h;rw[aU7];exact hb
 ·exact aR2 (aUc (aSh h) (aUX _ _)) ha
theorem Ju{k:Nat}{a:V3}(h:BV k a):pG a<2^(4*k+1):=by have b:=Jv h;exact wE (wE (wE (Nat.pow_pos (by omega)) b.1.1) b.2.1.1) b.2.2.1
theorem ue{k:Nat}{a:V3}(h:BV k a)(dM:a≠v0):BV (8*k+2) (mW a):=by have h1:Bq (4*k+1) (aTV 1 (pG a)):=Bq.divInt (by have:=Pd dM;omega) (by have:=h.1.pos;exact lE (show 1<2^1 by decide) (by omega)) (by rw[aTX];exact Ju h);exact(BV.scale h1 (Jv h)).mono (by omega)
theorem ot{v:AV}{a:V3}(h:fS v a){k:Nat}(ba:BV k a)(hk:k<=1000000000)(dM:a≠v0):
  ∃r,aO E 63 [v]=some (.tuple [r,.int .i64 0])/\fS r (mW a):=by
 suffices hh:∃u,aO E 63 [v]=some u/\∃r,u=.tuple [r,.int .i64 0]/\fS r (mW a)by
  obtain⟨u,h1,r,rfl,h2⟩:=hh;exact⟨r,h1,h2⟩
 have hz:=iP (E:=E) h ba (by omega);rw[cH dM]at hz;obtain⟨o,ho,io⟩:=xK C (n:=1) (by omega) (by omega);have po:=dz io;obtain⟨no,mo,lo,rfl,AB,-,-,-⟩:=id io;have Mo:aN mo=true/\b7 mo=true:=⟨aL AB,(aY AB).2⟩;obtain⟨n0,m0,n1,m1,n2,m2,n3,m3,n4,m4,n5,m5,rfl,a1,a2,a3,P,O⟩:=cD h;have b0:1<2^1:=by decide
 have b1:=zV b0 ba.1.2;have b2:=zV b1 ba.2.1.2;have p0:0<1:=by omega
 have p1:=EG p0 (jA a.x);have p2:=EG p1 (jA a.y);obtain⟨d1,g1,nq1,mq1,nr1,mr1,nm1,mm1,e11,e12,e13,e14,u11,u12,u13,u14,u15,i1⟩:=Bs (E:=E) (D:=1) io a1 b0 ba.1 p0 (by omega);obtain⟨d2,g2,nq2,mq2,nr2,mr2,nm2,mm2,e21,e22,e23,e24,u21,u22,u23,u24,u25,i2⟩:=Bs (E:=E) i1 a2 b1 ba.2.1 p1 (by omega);obtain⟨d3,g3,nq3,mq3,nr3,mr3,nm3,mm3,e31,e32,e33,e34,u31,u32,u33,u34,u35,i3⟩:=Bs (E:=E) i2 a3 b2 ba.2.2 p2 (by omega);have bD:=Q4 ba;obtain⟨w,hw,iw⟩:=xP (E:=E) i3 io (fF bD (by omega)) ⟨1,by omega,by decide⟩ (by omega);rw[show aTV ((lc (lc (lc 1 a.x.den) a.y.den) a.z.den:Nat):Int) 1=(pD a:Rat)from BR _]at iw;have bw:Bq (3*k+1) (pD a:Rat):=Bq.int (z:=(pD a:Int)) (by rw[aTX];exact bD) (by omega);obtain⟨s,hs,is⟩:=nJ (E:=E) h iw ba bw (by omega);have bs:=Jv ba;obtain⟨i0,j0,i1',j1,_,_,rfl,-,-,-,-⟩:=bR iw;have W:=aU _ iw;obtain⟨s0,t0,s1,t1,s2,t2,s3,t3,s4,t4,s5,t5,rfl,x1,x2,x3,Q,S'⟩:=cD is;have aCc:=WK;obtain⟨y1,ng1,mg1,k11,k12,v11,v12,l1⟩:=zJ (E:=E) (D:=0) WK x1 (show 0<2^1 by decide) bs.1 (by omega);have q1:aUZ 0 (pW a).x.num.natAbs<2^(4*k+1):=by rw[aU7];exact bs.1.1
 have q2:=wE q1 bs.2.1.1;obtain⟨y2,ng2,mg2,k21,k22,v21,v22,l2⟩:=zJ (E:=E) l1 x2 q1 bs.2.1 (by omega);obtain⟨y3,ng3,mg3,k31,k32,v31,v32,l3⟩:=zJ (E:=E) l2 x3 q2 bs.2.2 (by omega);have gp:=Pd dM;obtain⟨w2,wN,iw2⟩:=xP (E:=E) io l3 ⟨1,by omega,by decide⟩ (fF (Ju ba) (by omega)) (by show((pG a:Nat):Int)≠0;omega);have bw2:Bq (4*k+1) (aTV 1 (pG a)):=Bq.divInt (by omega) (by have:=ba.1.pos;exact lE (show 1<2^1 by decide) (by omega)) (by rw[aTX];exact Ju ba);obtain⟨f,hf,if'⟩:=nJ (E:=E) is iw2 bs bw2 (by omega);obtain⟨i4,j4,i5,j5,_,_,rfl,-,-,-,-⟩:=bR iw2;have W2:=aU _ iw2;obtain⟨f0,h0,f1,h1,f2,h2,f3,h3,f4,h4,f5,h5,rfl,-,-,-,QF,SF⟩:=cD if';refine mO avz ?_;intro ts hl g0;unfold c63;simp only[↓aQ,aR,↓aT,aK,↓reduceIte,aa,ah,ae,Tryz.f63,hl,g0,hz,P,ho,Mo];refine gb 4 ?_
 simp(maxSteps:=2000000)only[↓aQ,aR,↓aT,aK,↓reduceIte,aa,ah,ak,ae,an,ao,aq,ai,aj,aA,aj,hl,P,O,AF,MP,Rt,ho,po,e11,e12,e13,e14,u11,u12,u13,u14,u15,e21,e22,e23,e24,u21,u22,u23,u24,u25,e31,e32,e33,e34,u31,u32,u33,u34,u35,hw,W,hs,S']
 refine gb 4 ?_
 simp(maxSteps:=2000000)only[↓aQ,aR,↓aT,aK,↓reduceIte,aa,ah,ak,ae,an,ao,aq,ai,aj,aA,aj,hl,AF,MP,Rt,ho,po,Q,S',k11,k12,v11,v12,k21,k22,v21,v22,k31,k32,v31,v32,wN,W2,hf,QF,SF]
 exact⟨_,rfl,if'⟩
inductive iZ:List AV->List Rat->Prop
 |nil:iZ [] []
 |cons {n:Bool} {m:AV} {n':Bool} {m':AV} {q:Rat} {cs:List AV} {qs:List Rat} (h:cX (.agg [.bool n,m,.bool n',m']) q) (t:iZ cs qs):iZ (.bool n::m:: .bool n'::m'::cs) (q::qs)
theorem iZ.len:∀{cs:List AV} {qs:List Rat},iZ cs qs->cs.length=qs.length*4
 |_,_,.nil=>rfl
 |_,_,.cons _ t=>by
  have:=t.len
  simp only[aMn];omega
theorem iZ.get:∀{cs:List AV} {qs:List Rat},iZ cs qs->∀{i:Nat},i<qs.length->∃n m n' m',(cs.drop (i*4)).take 4=[.bool n,m,.bool n',m']/\cX (.agg [.bool n,m,.bool n',m']) (qs.getD i 0)
 |_,_,.nil,i,hi=>by simp at hi
 |_,_,.cons (n:=n) (m:=m) (n':=n') (m':=m') h t,0,_=>⟨n,m,n',m',by simp,by simpa using h⟩
 |_,_,.cons h t,i+1,hi=>by
  obtain⟨n,m,n',m',h1,h2⟩:=t.get (i:=i) (by simpa using hi);refine⟨n,m,n',m',?_,by simpa using h2⟩;rw[<-h1,show(i+1)*4=i*4+4 by omega];simp only[aQp]
theorem iZ.set:∀{cs:List AV} {qs:List Rat},iZ cs qs->∀{i:Nat},i<qs.length->∀{n m n' m'} {q:Rat},cX (.agg [.bool n,m,.bool n',m']) q->iZ (dE cs (i*4) [.bool n,m,.bool n',m']) (qs.set i q)
 |_,_,.nil,i,hi,_,_,_,_,_,_=>by simp at hi
 |_,_,.cons h t,0,_,_,_,_,_,_,h'=>by
  simp only[dE,Nat.zero_mul,aRh,List.nil_append,aP4,aMn,aP3,Nat.zero_add,aQp,List.drop_zero,aU2];exact .cons h' t
 |_,_,.cons h t,i+1,hi,_,_,_,_,_,h'=>by
  have:=t.set (i:=i) (by simpa using hi) h'
  unfold dE at this⊢;rw[show(i+1)*4=i*4+4 by omega];simp only[aQo,aP4,List.set_cons_succ,aMn,aP3]at this⊢;rw[show i*4+4+(0+1+1+1+1)=i*4+(0+1+1+1+1)+4 by omega];simp only[aQp];exact .cons h this
theorem iZ.flat:∀{cs:List AV} {qs:List Rat},iZ cs qs->∀v∈cs,Flat v
 |_,_,.nil=>by simp
 |_,_,.cons h t=>by
  have h1:=rn h;have h2:=t.flat;intro v hv;simp only[List.mem_cons]at hv;rcases hv with hv|hv|hv|hv|hv
  ·exact h1 v (by simp[hv])
  ·exact h1 v (by simp[hv])
  ·exact h1 v (by simp[hv])
  ·exact h1 v (by simp[hv])
  ·exact h2 v hv
theorem iZ.pure:∀{cs:List AV} {qs:List Rat},iZ cs qs->bE cs=true
 |_,_,.nil=>rfl
 |_,_,.cons h t=>by
  have:=aU _ h
  simp[bE,aN,this.1,this.2.2.1,t.pure]
theorem iZ.one:∀{cs:List AV} {qs:List Rat},iZ cs qs->cs.all b7=true
 |_,_,.nil=>rfl
 |_,_,.cons h t=>by
  have:=aU _ h
  simp only[aOV,qp,this.2.1,this.2.2.2,t.one,aRg]
theorem iZ.FD:∀(n:Nat),iZ (iG [.bool false,.aH,.bool false,.aH] n) (aK6 n 0)
 |0=>.nil
 |n+1=>.cons qC (iZ.FD n)
def gy(v:AV)(qs:List Rat):Prop:=∃cs,v=.aJ cs qs.length/\iZ cs qs
theorem gy.pure{v:AV}{qs:List Rat}(h:gy v qs):aN v=true:=by obtain⟨cs,rfl,h⟩:=h;rfl
def CP(f:Rat->Rat->Rat)(a b:List Rat):Nat->List Rat
 |0=>aK6 a.length 0
 |i+1=>(CP f a b i).set i (f (a.getD i 0) (b.getD i 0))
theorem jV{f:Rat->Rat->Rat}{a b:List Rat}:∀{i:Nat},(CP f a b i).length=a.length
 |0=>by simp[CP]
 |i+1=>by rw[CP,aPp,jV]
theorem LK{f:Rat->Rat->Rat}{a b:List Rat}:∀{i j:Nat},i<=a.length->j<i->(CP f a b i).getD j 0=f (a.getD j 0) (b.getD j 0)
 |0,j,_,h=>by omega
 |i+1,j,hi,h=>by
  rw[CP,aSW,List.getElem?_set];by_cases e:i=j
  ·subst e;rw[if_pos rfl,if_pos (by rw[jV];omega)];rfl
  ·rw[if_neg e,<-aSW];exact LK (by omega) (by omega)
theorem zZ{f:Rat->Rat->Rat}{a b:List Rat}(h:b.length=a.length):CP f a b a.length=aU3 f a b:=by
 refine List.ext_getElem (by rw[jV,aU6];omega) fun i h1 h2=>?_
 rw[jV]at h1
 have:=LK (f:=f) (a:=a) (b:=b) (Nat.le_refl _) h1
 rw[aSW,aMh (by rw[jV];exact h1),aNt]at this;rw[this,List.getElem_zipWith,aSW,aMh h1,aSW,aMh (by omega)];rfl
theorem ju{cs:List AV}{o:Nat}(ho:o+4<=cs.length):iR true 4 cs o=some (.agg ((cs.drop o).take 4)):=by simp[iR,ho]
theorem xe{H:Hp}{b o:Nat}{cs xs:List AV}(h:H[b]?=some (.cells .live cs))(hx:xs.length=4)(ho:o+4<=cs.length)(sH:xs.all b7=true):mY 4 xs H b o=some (.cells .live (dE cs o xs)):=by rw[kR,h];simp only;rw[if_pos (by simp[hx,ho,sH])]
theorem ES{fn:Nat}(hf:cg E fn=false){fc:List AV}(hfc:bE fc=true){f:Rat->Rat->Rat}{v w:AV}{a b:List Rat}(h:gy v a)(h':gy w b)(JX:b.length=a.length)(AA:a.length<=1000)
  (hx:∀i x y,i<a.length->cX x (a.getD i 0)->cX y (b.getD i 0)->∃r,aO E fn (x::y::fc)=some r/\cX r (f (a.getD i 0) (b.getD i 0))):
  ∃r,aO E 230 [v,w,.func fn [] fc]=some r/\gy r (aU3 f a b):=by
 obtain⟨ca,rfl,ra⟩:=h;obtain⟨cb,rfl,rb⟩:=h';have wH:=fun{dr st:Bool} {bl:List AV} {H:Hp} {k:AV->cJ->Prop}=>lu (E:=E) (dr:=dr) (st:=st) (f:=fn) (bl:=bl) (H:=H) (k:=k) hf
 have J2:=fun aM=>yP (E:=E) (aM:=aM) (m:=a.length) (k:=.i64) (k':=.i64) (by omega)
 refine Zj anm ?_;intro ts hl g0 g1 g2;unfold al4;simp only[↓aQ,aR,aK,aa,ae,Tryz.f230,hl,g0,J2];refine fh (fun k_ ts H=>∃i cs,k_=a.length-i/\ts.length=32/\gt ts 0=.aJ ca a.length/\gt ts 1=.aJ cb b.length/\gt ts 2=.func fn [] fc/\gt ts 7=.aI 0 0 a.length 4 a.length/\gt ts 13=.int .i64 (a.length:Int)/\gt ts 14=.int .i64 (i:Int)/\H=[.cells .live cs]/\(i<=a.length)/\(iZ cs (CP f a b i))) (a.length) ?_ ?_
 rotate_left
 ·refine⟨0,(iG [.bool false,.aH,.bool false,.aH] a.length),(by first|omega|rfl|(simp;done)),(by simp only[cK,hl]),?_⟩;simp only[cM,hl,aa,ae,g0,g1,g2]
  iterate 7 refine⟨by first|trivial|rfl|(congr 1;omega)|(simp;done)|(simp;omega),?_⟩
  refine⟨?_,?_⟩
  ·omega
  ·exact iZ.FD _
 clear hl g0 g1 g2 ts;rintro k_ ts H ⟨i,cs,rfl,hl,g0,g1,g2,g7,g13,g14,rfl,hi,hc⟩;refine VS ?_;have iE:=hc.len;rw[jV]at iE;by_cases hd:i<a.length
 ·have dc:decide ((i:Int)<(a.length:Int))=true:=cF (by omega);have oF:((i:Int)<(a.length:Int))=True:=eq_true (by omega);have cb1:((i:Int)<(b.length:Int))=True:=eq_true (by omega);have w1:aV .i64 ((i:Int)+1)=((i+1:Nat):Int):=by rw[wrap_i64 (by omega) (by omega)];omega
  obtain⟨n1,m1,n2,m2,e1,r1⟩:=ra.get hd;obtain⟨n3,m3,n4,m4,e2,r2⟩:=rb.get (i:=i) (by omega);have p1:=ju (cs:=ca) (o:=i*4) (by have:=ra.len;omega);have p2:=ju (cs:=cb) (o:=i*4) (by have:=rb.len;omega);rw[e1]at p1;rw[e2]at p2;obtain⟨r,hr,ir⟩:=hx i _ _ hd r1 r2;obtain⟨n5,m5,n6,m6,_,_,rfl,-,-,-,-⟩:=bR ir;have A:=aU _ r1;have B:=aU _ r2;have D:=aU _ ir;have fK:=xe (H:=[.cells .live cs]) (b:=0) (o:=i*4) (cs:=cs) (xs:=[.bool n5,m5,.bool n6,m6]) rfl rfl (by omega) (by simp only[aOV,qp,D.2.1,D.2.2.2,List.all_nil,aRg]);have oK:=hc.set (i:=i) (by rw[jV];exact hd) ir;have R6:decide (i*4+4<=cs.length)=true:=cF (by omega);simp only[↓aQ,aR,aK,↓reduceIte,aa,ah,ae,hl,g0,g1,g2,g7,g13,g14,oF,cb1,w1,p1,p2,wH,hr,hfc,A,B,fK];refine dO ?_;refine⟨_,?_,i+1,dE cs (i*4) [.bool n5,m5,.bool n6,m6],rfl,(by simp only[cK,hl]),?_⟩
  ·first|omega|(simp;omega)
  simp only[cM,hl,aa,ae,g0,g1,g2,g7,g13]
  iterate 7 refine⟨by first|trivial|rfl|(congr 1;omega)|(simp;done)|(simp;omega),?_⟩
  refine⟨?_,?_⟩
  ·omega
  ·exact oK
 ·have dc:decide ((i:Int)<(a.length:Int))=false:=cH (by omega);obtain rfl:i=a.length:=by omega
  have gf:=jQ (H:=[.cells .live cs]) (b:=0) (m:=a.length) (s:=4) (st:=.live) rfl (by decide) iE hc.flat;simp only[↓aQ,aR,↓reduceIte,aa,ae,hl,g7,g13,g14,dc,gf];rw[zZ JX]at hc;refine⟨cs,?_,hc⟩;rw[aU6,JX,Nat.min_self]
theorem wZ{l:List AV}{n:Nat}:fO (.eU l n)=[]:=rfl
def BL(k:Nat)(a:List Rat):Prop:=∀q∈a,Bq k q
theorem BL.get{k:Nat}{a:List Rat}(h:BL k a){i:Nat}(hi:i<a.length):Bq k (a.getD i 0):=by rw[aSW,aMh hi,aNt];exact h _ (aMo hi)
theorem Pb{v w:AV}{k0 k1 k2 k3:AV}{q p:Rat}(h:cX v q)(hk:cX (.agg [k0,k1,k2,k3]) p){k l:Nat}(bq:Bq k q)(bp:Bq l p)(hb:k+l<=100000000000)(hp:p≠0):∃r,aO E 231 [v,w,.eU [k0,k1,k2,k3] 0]=some r/\cX r (q/p):=by obtain⟨r,hr,ir⟩:=xU (E:=E) h hk bq bp (by omega) hp;obtain⟨n0,m0,n1,m1,_,_,rfl,-,-,-,-⟩:=bR h;obtain⟨i0,j0,i1,j1,_,_,e,-,-,-,-⟩:=bR hk;simp only[AV.agg.injEq,List.cons.injEq,and_true]at e;obtain⟨rfl,rfl,rfl,rfl⟩:=e;obtain⟨s0,t0,s1,t1,_,_,rfl,-,-,-,-⟩:=bR ir;have A:=aU _ h;have B:=aU _ hk;have D:=aU _ ir;have hp:iR true 4 [AV.bool i0,k1,.bool i1,k3] 0=some (.agg [.bool i0,k1,.bool i1,k3]):=rfl;refine Zj ann ?_;intro ts hl g0 g1 g2;unfold al5;simp only[↓aQ,aR,↓aT,aK,↓reduceIte,aa,ah,ae,Tryz.f231,hl,g0,g1,g2,hp,hr,A,B,D];exact ir
theorem OS{v w:AV}{k0 k1 k2 k3:AV}{q y p:Rat}(h:cX v q)(h':cX w y)(hk:cX (.agg [k0,k1,k2,k3]) p){k l:Nat}(bq:Bq k q)(RC:Bq k y)(bp:Bq l p)(hb:2*k+l<=100000000000):∃r,aO E 232 [v,w,.eU [k0,k1,k2,k3] 0]=some r/\cX r (q-p*y):=by
 have tE:=jh (E:=E) h';obtain⟨x,hx,ix⟩:=gv (E:=E) hk h' bp RC (by omega);obtain⟨r,hr,ir⟩:=uk (E:=E) h ix bq (bp.mul RC) (by omega);have px:=jm ix;obtain⟨n0,m0,n1,m1,_,_,rfl,-,-,-,-⟩:=bR h;obtain⟨y0,z0,y1,z1,_,_,rfl,-,-,-,-⟩:=bR h';obtain⟨i0,j0,i1,j1,_,_,e,-,-,-,-⟩:=bR hk;simp only[AV.agg.injEq,List.cons.injEq,and_true]at e;obtain⟨rfl,rfl,rfl,rfl⟩:=e;obtain⟨s0,t0,s1,t1,_,_,rfl,-,-,-,-⟩:=bR ir;have A:=aU _ h;have A':=aU _ h';have B:=aU _ hk;have D:=aU _ ir;have hp:iR true 4 [AV.bool i0,k1,.bool i1,k3] 0=some (.agg [.bool i0,k1,.bool i1,k3]):=rfl;refine Zj ano ?_;intro ts hl g0 g1 g2;unfold al6;by_cases hy:y=0
 ·have M4:xd y.num=0:=by rw[hy];rfl
  rw[M4]at tE;simp only[↓aQ,aR,↓aT,aK,↓reduceIte,aa,ah,ae,Tryz.f232,hl,g0,g1,tE,A,A'];rw[hy,Rat.mul_zero,Rat.sub_eq_add_neg,Rat.neg_zero,Rat.add_zero];exact h
 ·have M4:(xd y.num==0)=false:=by
   have:y.num≠0:=fun e=>hy (Rat.num_eq_zero.1 e)
   unfold xd;rw[if_neg this]
   split<;>rfl
  simp only[↓aQ,aR,↓aT,aK,↓reduceIte,aa,ah,ae,Tryz.f232,hl,g0,g1,g2,hp,hr,hx,tE,M4,px,A,A',B,D,wZ];exact ir
theorem KN{H:Hp}{b f:Nat}{l1 l2 cs:List AV}{n1 n2:Nat}{st:iH}(h:H[b]?=some (.cells st cs))(hd:st≠ .dead)(hf:∀v∈cs,Flat v):oG false H [.aJ l1 n1,.aJ l2 n2,.func f [] [.b6 b 0]]=some ([.aJ l1 n1,.aJ l2 n2,.func f [] [.eU cs 0]],[b]):=by rw[kV];unfold bW;rw[show bE [AV.aJ l1 n1,.aJ l2 n2,.func f [] [.b6 b 0]]=false by simp[bE,aN]];simp only[aLs,if_false];unfold dh;rw[show fz H 40 (.aJ l1 n1)=some (.aJ l1 n1,[])from rfl];unfold dh;rw[show fz H 40 (.aJ l2 n2)=some (.aJ l2 n2,[])from rfl];unfold dh;rw[VL h hd hf];unfold dh;rfl
theorem SY{v w:AV}{a:List Rat}{p:Rat}(h:gy v a)(hk:cX w p){k l:Nat}(ba:BL k a)(bp:Bq l p)(hb:k+l<=100000000000)(AA:a.length<=1000)(hp:p≠0):∃r,aO E 199 [v,w]=some r/\gy r (aU3 (fun x _=>x/p) a a):=by obtain⟨i0,j0,i1,j1,_,_,rfl,-,-,-,-⟩:=bR hk;have B:=aU _ hk;obtain⟨r,hr,ir⟩:=ES (E:=E) (fn:=231) (fc:=[.eU [.bool i0,j0,.bool i1,j1] 0]) (cn C (by kernel_rfl)) rfl (f:=fun x _=>x/p) h h rfl AA (fun i x y hi hx hy=>Pb (E:=E) hx hk (ba.get hi) bp hb hp);obtain⟨ca,rfl,ra⟩:=h;obtain⟨cr,rfl,rr⟩:=id ir;have gf:=KN (f:=231) (b:=0) (H:=[.cells .live [.bool i0,j0,.bool i1,j1]]) (l1:=ca) (n1:=a.length) (l2:=ca) (n2:=a.length) (st:=.live) rfl (by decide) (rn hk);refine tS ani ?_;intro ts hl g0 g1;unfold al0;simp only[↓aQ,aR,↓aT,aK,↓reduceIte,aa,ae,Tryz.f199,hl,g0,g1,gf,hr,ug];exact ir
theorem Sy{v u w:AV}{a b:List Rat}{p:Rat}(h:gy v a)(h':gy u b)(hk:cX w p){k l:Nat}(ba:BL k a)(bb:BL k b)(bp:Bq l p)(hb:2*k+l<=100000000000)(JX:b.length=a.length)(AA:a.length<=1000):∃r,aO E 200 [v,u,w]=some r/\gy r (aU3 (fun x y=>x-p*y) a b):=by obtain⟨i0,j0,i1,j1,_,_,rfl,-,-,-,-⟩:=bR hk;have B:=aU _ hk;obtain⟨r,hr,ir⟩:=ES (E:=E) (fn:=232) (fc:=[.eU [.bool i0,j0,.bool i1,j1] 0]) (cn C (by kernel_rfl)) rfl (f:=fun x y=>x-p*y) h h' JX AA (fun i x y hi hx hy=>OS (E:=E) hx hy hk (ba.get hi) (bb.get (by omega)) bp hb);obtain⟨ca,rfl,ra⟩:=h;obtain⟨cb,rfl,rb⟩:=h';obtain⟨cr,rfl,rr⟩:=id ir;have gf:=KN (f:=232) (b:=0) (H:=[.cells .live [.bool i0,j0,.bool i1,j1]]) (l1:=ca) (n1:=a.length) (l2:=cb) (n2:=b.length) (st:=.live) rfl (by decide) (rn hk);refine Zj ank ?_;intro ts hl g0 g1 g2;unfold al1;simp only[↓aQ,aR,↓aT,aK,↓reduceIte,aa,ae,Tryz.f200,hl,g0,g1,g2,gf,hr,ug];exact ir
def dX(a:V3):V3:=if yj (mW a) v0<0 then JV (mW a)else mW a
theorem Bl{v:AV}{a:V3}(h:fS v a){k:Nat}(ba:BV k a)(hk:k<=1000000000)(dM:a≠v0):
  ∃r,aO E 47 [v]=some r/\fS r (dX a):=by
 obtain⟨p,hp,ip⟩:=ot (E:=E) h ba hk dM;have bp:=ue ba dM;have hc:=tv (E:=E) ip CW bp bv0 (by omega);obtain⟨n,hn,in'⟩:=Ig (E:=E) ip bp (by omega);obtain⟨Kh,Kf,Ki,Kg,Nt,Np,Nu,Nq,Nv,Nr,Nw,Ns,rfl,-,-,-,P,O⟩:=cD h;obtain⟨Q9,Q7,Ra,Q8,pn2,pm2,pn3,pm3,pn4,pm4,pn5,pm5,rfl,-,-,-,P1,O1⟩:=cD ip;obtain⟨FJ,FH,FK,FI,qn2,qm2,qn3,qm3,qn4,qm4,qn5,qm5,rfl,-,-,-,P2,O2⟩:=cD in';refine mO avj ?_;intro ts hl g0;unfold c47 dX;by_cases hs:yj (mW a) v0<0
 ·have hd:decide (yj (mW a) v0<0)=true:=cF hs;rw[if_pos hs];simp only[↓aQ,aR,↓aT,aK,↓reduceIte,aa,ah,ae,Tryz.f47,hl,g0,P,P1,O1,P2,O2,hp,hc,hn,hd];exact in'
 ·have hd:decide (yj (mW a) v0<0)=false:=cH hs;rw[if_neg hs];simp only[↓aQ,aR,↓aT,aK,↓reduceIte,aa,ah,ae,Tryz.f47,hl,g0,P,P1,O1,hp,hc,hd];exact ip
theorem TF{k:Nat}{a:V3}(h:BV k a):BV (k+2) (JV a):=
 ⟨(yk.sub h.1).mono (by omega),(yk.sub h.2.1).mono (by omega),(yk.sub h.2.2).mono (by omega)⟩
theorem Bk{k:Nat}{a:V3}(h:BV k a)(dM:a≠v0):BV (8*k+4) (dX a):=by
 have h1:=ue h dM;unfold dX
 split
 ·exact(TF h1)
 ·exact h1.mono (by omega)
structure Tw where
 a:V3
 l:V3
def AL(v:AV)(t:Tw):Prop:=∃kH kr kI ku me lO mf lP mh lQ mi lR nk nh nu nj nS nO nT nP nU nQ nV nR,v=.agg [.bool kH,kr,.bool kI,ku,.bool me,lO,.bool mf,lP,.bool mh,lQ,.bool mi,lR,.bool nk,nh,.bool nu,nj,.bool nS,nO,.bool nT,nP,.bool nU,nQ,.bool nV,nR]/\fS (.agg [.bool kH,kr,.bool kI,ku,.bool me,lO,.bool mf,lP,.bool mh,lQ,.bool mi,lR]) t.a/\fS (.agg [.bool nk,nh,.bool nu,nj,.bool nS,nO,.bool nT,nP,.bool nU,nQ,.bool nV,nR]) t.l
theorem dQ{kH kr kI ku me lO mf lP mh lQ mi lR}{a:V3}(h:fS (.agg [.bool kH,kr,.bool kI,ku,.bool me,lO,.bool mf,lP,.bool mh,lQ,.bool mi,lR]) a):(aN kr=true/\aN ku=true/\aN lO=true/\aN lP=true/\aN lQ=true/\aN lR=true)/\(b7 kr=true/\b7 ku=true/\b7 lO=true/\b7 lP=true/\b7 lQ=true/\b7 lR=true):=by obtain⟨nk,nh,nu,nj,nS,nO,nT,nP,nU,nQ,nV,nR,e,-,-,-,P,O⟩:=cD h;simp only[AV.agg.injEq,List.cons.injEq,AV.bool.injEq,and_true]at e;obtain⟨rfl,rfl,rfl,rfl,rfl,rfl,rfl,rfl,rfl,rfl,rfl,rfl⟩:=e;exact⟨P,O⟩
def gd(d p:V3):Tw:=⟨d,bX p d⟩
def gI(d:V3):Tw:=⟨v0,d⟩
def yA(s t:Tw):Tw:=⟨Av s.a t.a,Av s.l t.l⟩
theorem lk{v w:AV}{d p:V3}(h:fS v d)(h':fS w p){k l:Nat}(bd:BV k d)(bp:BV l p)(hk:k+l<=10000000000):∃r,aO E 77 [v,w]=some r/\AL r (gd d p):=by
 obtain⟨c,hc,ic⟩:=rS (E:=E) h' h bp bd (by omega);obtain⟨Kh,Kf,Ki,Kg,Nt,Np,Nu,Nq,Nv,Nr,Nw,Ns,rfl,-,-,-,P,O⟩:=cD h;obtain⟨Ko,Kl,Kp,Km,Kq,Kn,UK,UH,UL,UI,UM,UJ,rfl,-,-,-,P1,O1⟩:=cD h';obtain⟨cn0,cm0,cn1,cm1,cn2,cm2,cn3,cm3,cn4,cm4,cn5,cm5,rfl,-,-,-,P2,O2⟩:=cD ic;refine tS avL ?_;intro ts hl g0 g1;unfold c77
 simp(maxSteps:=1000000)only[↓aQ,aR,↓aT,aK,↓reduceIte,aa,ah,ae,Tryz.f77,ai,hl,g0,g1,P,O,P1,P2,O2,hc]
 exact⟨Kh,Kf,Ki,Kg,Nt,Np,Nu,Nq,Nv,Nr,Nw,Ns,cn0,cm0,cn1,cm1,cn2,cm2,cn3,cm3,cn4,cm4,cn5,cm5,rfl,h,ic⟩
theorem ji{v:AV}{d:V3}(h:fS v d):∃r,aO E 78 [v]=some r/\AL r (gI d):=by
 obtain⟨Kh,Kf,Ki,Kg,Nt,Np,Nu,Nq,Nv,Nr,Nw,Ns,rfl,-,-,-,P,O⟩:=cD h;refine mO avM ?_;intro ts hl g0;unfold c78
 simp(maxSteps:=1000000)only[↓aQ,aR,aK,↓reduceIte,aa,ah,ae,Tryz.f78,hl,g0,P,O]
 exact⟨_,_,_,_,_,_,_,_,_,_,_,_,_,_,_,_,_,_,_,_,_,_,_,_,rfl,CW,h⟩
theorem FA{v w:AV}{s t:Tw}(h:AL v s)(h':AL w t){k l:Nat}(b1:BV k s.a)(b2:BV k s.l)(b3:BV l t.a)(b4:BV l t.l)(hk:k+l<=100000000000):∃r,aO E 79 [v,w]=some r/\AL r (yA s t):=by
 obtain⟨Kh,Kf,Ki,Kg,Nt,Np,Nu,Nq,Nv,Nr,Nw,Ns,Ko,Kl,Kp,Km,Kq,Kn,UK,UH,UL,UI,UM,UJ,rfl,ha,hb⟩:=h;obtain⟨cn0,cm0,cn1,cm1,cn2,cm2,cn3,cm3,cn4,cm4,cn5,cm5,CJ,CH,CK,CI,dn2,dm2,dn3,dm3,dn4,dm4,dn5,dm5,rfl,hc,hd⟩:=h';obtain⟨x,hx,ix⟩:=HZ (E:=E) ha hc b1 b3 hk;obtain⟨y,hy,iy⟩:=HZ (E:=E) hb hd b2 b4 hk;obtain⟨en0,em0,en1,em1,en2,em2,en3,em3,en4,em4,en5,em5,rfl,-,-,-,P1,O1⟩:=cD ix;obtain⟨fn0,fm0,fn1,fm1,fn2,fm2,fn3,fm3,fn4,fm4,fn5,fm5,rfl,-,-,-,P2,O2⟩:=cD iy;have A:=dQ ha;have B:=dQ hb;have D:=dQ hc;have F:=dQ hd;refine tS avN ?_;intro ts hl g0 g1;unfold c79
 simp(maxSteps:=1000000)only[↓aQ,aR,↓aT,aK,↓reduceIte,aa,ah,ae,Tryz.f79,ai,hl,g0,g1,P1,O1,P2,O2,A,B,D,F,hx,hy]
 exact⟨en0,em0,en1,em1,en2,em2,en3,em3,en4,em4,en5,em5,fn0,fm0,fn1,fm1,fn2,fm2,fn3,fm3,fn4,fm4,fn5,fm5,rfl,ix,iy⟩
structure Mo where
 r1:V3
 r2:V3
 r3:V3
 s:V3
def BT(k:Nat)(t:Tw):Prop:=BV k t.a/\BV k t.l
theorem MH{v:AV}{t:Tw}(h:AL v t){k:Nat}(bt:BT k t)(hk:k<=90000000000):aO E 62 [v]=some (.bool (decide (t.a=v0/\t.l=v0))):=by
 refine ep ?_;obtain⟨Kh,Kf,Ki,Kg,Nt,Np,Nu,Nq,Nv,Nr,Nw,Ns,Ko,Kl,Kp,Km,Kq,Kn,UK,UH,UL,UI,UM,UJ,rfl,ha,hb⟩:=h;have h1:=iP (E:=E) ha bt.1 hk;have h2:=iP (E:=E) hb bt.2 hk;have A:=dQ ha;have B:=dQ hb;refine mO avy ?_;intro ts hl g0;unfold c62;by_cases hz:t.a=v0
 ·rw[cF hz]at h1
  simp(maxSteps:=1000000)only[↓aQ,aR,↓aT,aK,↓reduceIte,aa,ah,ae,Tryz.f62,ai,hl,g0,A,B,h1,h2]
  simp[hz]
 ·rw[cH hz]at h1
  simp(maxSteps:=1000000)only[↓aQ,aR,↓aT,aK,↓reduceIte,aa,ah,ae,Tryz.f62,ai,hl,g0,A,h1]
  simp[hz]
theorem Lg{kH kr kI ku me lO mf lP mh lQ mi lR nk nh nu nj nS nO nT nP nU nQ nV nR}{a b:V3}(h:fS (.agg [.bool kH,kr,.bool kI,ku,.bool me,lO,.bool mf,lP,.bool mh,lQ,.bool mi,lR]) a)(h':fS (.agg [.bool nk,nh,.bool nu,nj,.bool nS,nO,.bool nT,nP,.bool nU,nQ,.bool nV,nR]) b):aO E 83 [.agg [.bool kH,kr,.bool kI,ku,.bool me,lO,.bool mf,lP,.bool mh,lQ,.bool mi,lR],.agg [.bool nk,nh,.bool nu,nj,.bool nS,nO,.bool nT,nP,.bool nU,nQ,.bool nV,nR]]=some (.aJ [.bool kH,kr,.bool kI,ku,.bool me,lO,.bool mf,lP,.bool mh,lQ,.bool mi,lR,.bool nk,nh,.bool nu,nj,.bool nS,nO,.bool nT,nP,.bool nU,nQ,.bool nV,nR] 6):=by
 refine ep ?_;have A:=dQ h;have B:=dQ h';have J2:∀aM,fL E aM 118 (.int .i64 6) (.int .i64 6)=some (.aI aM 0 6 4 6,[(aM,.cells .live [.bool false,.aH,.bool false,.aH,.bool false,.aH,.bool false,.aH,.bool false,.aH,.bool false,.aH,.bool false,.aH,.bool false,.aH,.bool false,.aH,.bool false,.aH,.bool false,.aH,.bool false,.aH])]):=fun aM=>yP (E:=E) (aM:=aM) (m:=6) (k:=.i64) (k':=.i64) (by omega)
 have T3:∀v∈[.bool kH,kr,.bool kI,ku,.bool me,lO,.bool mf,lP,.bool mh,lQ,.bool mi,lR,.bool nk,nh,.bool nu,nj,.bool nS,nO,.bool nT,nP,.bool nU,nQ,.bool nV,nR],Flat v:=by
  intro v hv;rw[show [.bool kH,kr,.bool kI,ku,.bool me,lO,.bool mf,lP,.bool mh,lQ,.bool mi,lR,.bool nk,nh,.bool nu,nj,.bool nS,nO,.bool nT,nP,.bool nU,nQ,.bool nV,nR]=[.bool kH,kr,.bool kI,ku,.bool me,lO,.bool mf,lP,.bool mh,lQ,.bool mi,lR]++[.bool nk,nh,.bool nu,nj,.bool nS,nO,.bool nT,nP,.bool nU,nQ,.bool nV,nR]from rfl]at hv;rcases List.mem_append.1 hv with hv|hv
  ·exact sw h v hv
  ·exact sw h' v hv
 have gf:=jQ (H:=[.cells .live [.bool kH,kr,.bool kI,ku,.bool me,lO,.bool mf,lP,.bool mh,lQ,.bool mi,lR],.cells .live [.bool nk,nh,.bool nu,nj,.bool nS,nO,.bool nT,nP,.bool nU,nQ,.bool nV,nR],.cells .live [.bool kH,kr,.bool kI,ku,.bool me,lO,.bool mf,lP,.bool mh,lQ,.bool mi,lR,.bool nk,nh,.bool nu,nj,.bool nS,nO,.bool nT,nP,.bool nU,nQ,.bool nV,nR]]) (b:=2) (m:=6) (s:=4) (st:=.live) rfl (by decide) rfl T3;refine tS avQ ?_;intro ts hl g0 g1;unfold c83
 simp(maxSteps:=1000000)only[↓aQ,aR,aa,ah,ae,Tryz.f83,hl,g0,g1,J2]
 refine gb 4 ?_
 simp(maxSteps:=2000000)only[↓aQ,aR,aK,↓reduceIte,aa,ah,ak,ae,an,ao,aq,ai,aj,aA,aj,hl,A,B,AF,MP,Rt,wk4,wk5,gf]
def strs(qs:List Rat)(n i:Nat):List AV:=(qs.take i).map (fun q=>.str (bC q))++aK6 (n-i) (.str [])
theorem Yl{qs:List Rat}{i:Nat}(h:i<=qs.length):(strs qs qs.length i).length=qs.length:=by unfold strs;simp only[aMk,aOT,aMp,aU5];omega
theorem Ym{qs:List Rat}{i:Nat}(h:i<qs.length):(strs qs qs.length i).set i (.str (bC (qs.getD i 0)))=strs qs qs.length (i+1):=by
 unfold strs;have h1:((qs.take i).map (fun q=>AV.str (bC q))).length=i:=by rw[aOT,aMp];omega
 rw[List.set_append,if_neg (by omega),h1,Nat.sub_self,show qs.length-i=(qs.length-(i+1))+1 by omega,aQf,aU2,aUY h,List.map_append,aS1];rw[aSW,aMh h,aNt];rfl
theorem afy{v:AV}:∀{n:Nat},iG [v] n=aK6 n v
 |0=>rfl
 |n+1=>by rw[iG,afy,aQf];rfl
theorem ad8{T l:Hp}{L j o:Nat}(h:T.length=L):cellAt (T++l) (L+j) o=cellAt l j o:=by subst h;rw[iT,iT,aUV (by omega),aUW]
theorem agw{T l:Hp}{L o:Nat}(h:T.length=L):cellAt (T++l) L o=cellAt l 0 o:=ad8 (j:=0) h
theorem ad4{n:Nat}{T l:Hp}{L j o:Nat}(h:T.length=L):nZ n (T++l) (L+j) o=nZ n l j o:=by subst h;rw[mE,mE,aUV (by omega),aUW]
theorem agb{n:Nat}{T l:Hp}{L o:Nat}(h:T.length=L):nZ n (T++l) L o=nZ n l 0 o:=ad4 (j:=0) h
theorem afE{n:Nat}{xs:List AV}{T l:Hp}{L j o:Nat}(h:T.length=L):mY n xs (T++l) (L+j) o=mY n xs l j o:=by subst h;rw[kR,kR,aUV (by omega),aUW]
theorem ajP{n:Nat}{xs:List AV}{T l:Hp}{L o:Nat}(h:T.length=L):mY n xs (T++l) L o=mY n xs l 0 o:=afE (j:=0) h
theorem Fb{T l:Hp}{L j:Nat}{x:cG}(h:T.length=L)(hj:j<=l.length):dP (T++l) (L+j) x=T++dP l j x:=by
 subst h;unfold dP;rw[aMk];by_cases h:j<l.length
 ·rw[if_pos (by omega),if_pos h]
  have:=List.set_append_right (s:=T) (t:=l) (i:=T.length+j) (x:=x) (by omega)
  rw[aUW]at this;exact this
 ·rw[if_neg (by omega),if_neg h,aS1]
section
variable{T l:Hp}{L:Nat}{x a b c d e f:cG}(h:T.length=L)
include h
theorem aqR:dP T L x=T++[x]:=by subst h;exact eO
theorem aqS:dP (T++a::l) L x=T++x::l:=Fb (j:=0) h (by simp)
theorem aqT:dP (T++a::b::l) (L+1) x=T++a::x::l:=by rw[Fb h (by simp)];simp[dP]
theorem aqU:dP (T++a::b::c::l) (L+2) x=T++a::b::x::l:=by rw[Fb h (by simp)];simp[dP]
theorem aqV:dP (T++a::b::c::d::l) (L+3) x=T++a::b::c::x::l:=by rw[Fb h (by simp)];simp[dP]
theorem aqW:dP (T++a::b::c::d::e::l) (L+4) x=T++a::b::c::d::x::l:=by rw[Fb h (by simp)];simp[dP]
theorem lL{j:Nat}:(T++l)[L+j]?=l[j]?:=by subst h;rw[aUV (by omega),aUW]
theorem gk:(T++l)[L]?=l[0]?:=lL (j:=0) h
end
theorem UZ:AV.aH.cells=[.aH]:=rfl
theorem U0{cs:List AV}{n:Nat}:(AV.aJ cs n).cells=[.aJ cs n]:=rfl
theorem UY{b o n s k:Nat}:(AV.aI b o n s k).cells=[.aI b o n s k]:=rfl
theorem ab3{cs:List AV}{n:Nat}:b7 (AV.aJ cs n)=true:=rfl
theorem ab1{b o n s k:Nat}:b7 (AV.aI b o n s k)=true:=rfl
theorem ab2:b7 AV.aH=true:=rfl
theorem aqX{T l:Hp}{L:Nat}{x y0 y1 y2 y3 y4 y5:cG}(h:T.length=L):dP (T++y0::y1::y2::y3::y4::y5::l) (L+5) x=T++y0::y1::y2::y3::y4::x::l:=by rw[Fb h (by simp)];simp[dP]
theorem aqY{T l:Hp}{L:Nat}{x y0 y1 y2 y3 y4 y5 y6 y7:cG}(h:T.length=L):dP (T++y0::y1::y2::y3::y4::y5::y6::y7::l) (L+7) x=T++y0::y1::y2::y3::y4::y5::y6::x::l:=by rw[Fb h (by simp)];simp[dP]
theorem aiK{b o:Nat}:LP (.b6 b o)=some (.b6 b o):=rfl
theorem aiL{cs:List AV}{o:Nat}:LP (.eU cs o)=some (.eU cs o):=rfl
theorem LM{H l:Hp}{bs:List Nat}(hb:∀b∈bs,b<H.length):(cJ.marks bs).app (H++l)=Dv.mark H bs++l:=by
 show Dv.mark (H++l) bs=_
 refine List.ext_getElem? fun k=>?_
 by_cases hk:k<H.length
 ·rw[iF,aOB hk,aOB (by rw[k6];exact hk),iF]
 ·rw[iF,aUV (by omega),aUV (by rw[k6];omega),k6,if_neg (fun h=>hk (hb k h))]
theorem alm{n j k:Nat}:(n+j==n+k)=(j==k):=by rw[Bool.eq_iff_iff,beq_iff_eq,beq_iff_eq];omega
theorem at5{n k:Nat}:(0==n+(k+1))=false:=beq_eq_false_iff_ne.2 (by omega)
theorem Mn{cs xs:List AV}{o n:Nat}(hx:xs.length=n)(h:o+n<=cs.length):List.take n (List.drop o (dE cs o xs))=xs:=by unfold dE;rw[aS1,List.drop_append_of_le_length (by rw[aMp];omega),List.drop_take_self,List.nil_append,<-hx,List.take_left'];rfl
theorem Mq{cs xs:List AV}{o n:Nat}(hx:xs.length=n)(h:o+n<=cs.length):(dE cs o xs).length=cs.length:=by unfold dE;simp only[aMk,aMp,List.length_drop];omega
theorem kZ{T l:Hp}{b o:Nat}(h:b<T.length):cellAt (T++l) b o=cellAt T b o:=by rw[iT,iT,aOB h]
theorem rN{n:Nat}{T l:Hp}{b o:Nat}(h:b<T.length):nZ n (T++l) b o=nZ n T b o:=by rw[mE,mE,aOB h]
theorem vt{n:Nat}{xs:List AV}{T l:Hp}{b o:Nat}(h:b<T.length):mY n xs (T++l) b o=mY n xs T b o:=by rw[kR,kR,aOB h]
theorem vj{T l:Hp}{b:Nat}{x:cG}(h:b<T.length):dP (T++l) b x=T.set b x++l:=by unfold dP;rw[if_pos (by rw[aMk];omega)];exact List.set_append_left b x h
theorem jM{H:Hp}{b o:Nat}{st:iH}{cs:List AV}(h:H[b]?=some (.cells st cs))(hd:st≠ .dead):cellAt H b o=cs[o]?:=by rw[iT,h];simp only;rw[if_neg hd]
theorem jL{n:Nat}{H:Hp}{b o:Nat}{st:iH}{cs:List AV}(h:H[b]?=some (.cells st cs))(hd:st≠ .dead):nZ n H b o=if o+n<=cs.length then some (.agg ((cs.drop o).take n))else none:=by rw[mE,h];simp only;rw[if_neg hd]
theorem kG{n:Nat}{xs:List AV}{H:Hp}{b o:Nat}{cs:List AV}(h:H[b]?=some (.cells .live cs)):mY n xs H b o=if(xs.length==n&&(decide (o+n<=cs.length)&&xs.all b7))=true then some (.cells .live (dE cs o xs))else none:=by rw[kR,h]
end Go.Proofs.YtblnjkjjedanaaaGreatDoor
namespace Go.Proofs.YtblnjkjjedanaaaGreatDoor
open Go Dv
variable{E:Env}[C:Ctx E]
def dt:=eL (eL @ad8 (And.intro @agw @ad4) @agb (And.intro @afE @ajP)) (eL @aqR (And.intro @aqS @aqT) (And.intro @aqU @aqV) (And.intro @aqW @aqX)) (eL @aqY (And.intro @lL @gk) @alm (And.intro @at5 @aiK)) (eL @aiL (And.intro @UZ @U0) (And.intro @UY @ab3) (And.intro @ab1 @ab2))
end Go.Proofs.YtblnjkjjedanaaaGreatDoor
namespace Go.Proofs.YtblnjkjjedanaaaGreatDoor
open Go Dv Dv.bV
variable{E:Env}[C:Ctx E]
def dS(q:List Rat):AV:=.aJ (q.map fun x=>.str (bC x)) q.length
def mZ(q:List Rat):List AV:=q.map fun x=>.str (bC x)
theorem ML{q:List Rat}:(mZ q).length=q.length:=aOT _
theorem Ac{H0:Hp}{v:AV}{qs:List Rat}(h:gy v qs){k:Nat}(b:BL k qs)(hk:k<=100000000000)(hn:qs.length<=1000):
  ∃r H',cL E 82 [v] H0=some (r,H')/\r=.aI H0.length 0 qs.length 1 qs.length/\H0.length<H'.length/\(∀k,k<H0.length->H'[k]?=H0[k]?)/\H'[H0.length]?=some (.cells .live (mZ qs)):=by
 obtain⟨cs,rfl,rc⟩:=h;have iE:=rc.len;have J2:=fun aM=>arI (E:=E) (aM:=aM) (m:=qs.length) (k:=.i64) (k':=.i64) (by omega)
 refine gi1 (by rw[C.ud]) (by rw[C.fn];exact avP) (by decide) ?_;intro ts hl g0;unfold c82;simp only[↓aQ,aR,aK,dt,aa,ae,Tryz.f82,hl,g0,J2,afy];refine fh (fun k_ ts H=>∃i HC,k_=qs.length-i/\ts.length=23/\gt ts 3=.aI H0.length 0 qs.length 1 qs.length/\gt ts 9=.aJ cs qs.length/\gt ts 10=.int .i64 (qs.length:Int)/\gt ts 11=.int .i64 (i:Int)/\H=HC/\(i<=qs.length)/\(H0.length<HC.length)/\(∀k,k<H0.length->HC[k]?=H0[k]?)/\(HC[H0.length]?=some (.cells .live (strs qs qs.length i)))) (qs.length) ?_ ?_
 rotate_left
 ·refine⟨0,H0++[.cells .live (aK6 qs.length (.str []))],(by first|omega|rfl|(simp;done)),(by simp only[cK,hl]),?_⟩;simp only[cM,hl,aa,ae]
  iterate 5 refine⟨by first|trivial|rfl|(congr 1;omega)|(simp;done)|(simp;omega),?_⟩
  refine⟨?_,?_,?_,?_⟩
  ·omega
  ·rw[aMk];exact Nat.lt_succ_self _
  ·intro k hk;exact aOB hk
  ·rw[gk rfl];rfl
 clear hl g0 ts;rintro k_ ts H ⟨i,HC,rfl,hl,g3,g9,g10,g11,rfl,hi,vG,hK,hb⟩;refine VS ?_;have lJ:=Yl hi;by_cases hd:i<qs.length
 ·have dc:decide ((i:Int)<(qs.length:Int))=true:=cF (by omega);have oF:((i:Int)<(qs.length:Int))=True:=eq_true (by omega);have w1:aV .i64 ((i:Int)+1)=((i+1:Nat):Int):=by rw[wrap_i64 (by omega) (by omega)];omega
  obtain⟨n1,m1,n2,m2,e1,r1⟩:=rc.get hd;have p1:=ju (cs:=cs) (o:=i*4) (by omega);rw[e1]at p1;have A:=aU _ r1;have vI:=iQ (E:=E) r1 (b.get hd) hk;have s3:=fun xs l o=>vt (T:=H) (n:=1) (xs:=xs) (l:=l) (o:=o) vG
  have p3:=fun x l=>vj (T:=H) (l:=l) (x:=x) vG
  have fK:=kG (n:=1) (xs:=[.str (bC (qs.getD i 0))]) (o:=i) hb;rw[if_pos (by simp[b7,lJ];omega),fV,show [AV.str (bC (qs.getD i 0))].length=1 from rfl]at fK;have oK:List.take i (strs qs qs.length i)++[AV.str (bC (qs.getD i 0))]++List.drop (i+1) (strs qs qs.length i)=strs qs qs.length (i+1):=by
   rw[<-Ym hd,List.set_eq_take_append_cons_drop,if_pos (by omega)]
   simp
  rw[oK]at fK;simp only[↓aQ,aR,↓aT,aK,dt,↓reduceIte,aa,ah,ae,hl,g3,g9,g10,g11,oF,w1,p1,A,vI,s3,fK,p3];refine dO ?_;refine⟨_,?_,i+1,(H.set H0.length (.cells .live (strs qs qs.length (i+1)))++[.cells .live [.bool n1,m1,.bool n2,m2]]),rfl,(by simp only[cK,hl]),?_⟩
  ·first|omega|(simp;omega)
  simp only[cM,hl,aa,ae,g3,g9,g10]
  iterate 5 refine⟨by first|trivial|rfl|(congr 1;omega)|(simp;done)|(simp;omega),?_⟩
  refine⟨?_,?_,?_,?_⟩
  ·omega
  ·rw[aMk,aPp];omega
  ·intro k hk;rw[aOB (by rw[aPp];omega),List.getElem?_set_ne (by omega)];exact hK k hk
  ·rw[aOB (by rw[aPp];omega),aOc (by omega)]
 ·have dc:decide ((i:Int)<(qs.length:Int))=false:=cH (by omega);obtain rfl:i=qs.length:=by omega
  have KY:strs qs qs.length qs.length=mZ qs:=by
   unfold strs mZ
   simp
  rw[KY]at hb;simp only[↓aQ,aR,↓reduceIte,aa,ae,hl,g3,g10,g11,dc];exact⟨vG,hK,hb⟩
def Tw.qs(t:Tw):List Rat:=[t.a.x,t.a.y,t.a.z,t.l.x,t.l.y,t.l.z]
theorem BT.bl{k:Nat}{t:Tw}(h:BT k t):BL k t.qs:=by
 intro q hq;simp only[Tw.qs,List.mem_cons,List.not_mem_nil,or_false]at hq;rcases hq with rfl|rfl|rfl|rfl|rfl|rfl
 ·exact h.1.1
 ·exact h.1.2.1
 ·exact h.1.2.2
 ·exact h.2.1
 ·exact h.2.2.1
 ·exact h.2.2.2
theorem Ie{kH kr kI ku me lO mf lP mh lQ mi lR}{a:V3}(h:fS (.agg [.bool kH,kr,.bool kI,ku,.bool me,lO,.bool mf,lP,.bool mh,lQ,.bool mi,lR]) a):cX (.agg [.bool kH,kr,.bool kI,ku]) a.x/\cX (.agg [.bool me,lO,.bool mf,lP]) a.y/\cX (.agg [.bool mh,lQ,.bool mi,lR]) a.z:=by obtain⟨nk,nh,nu,nj,nS,nO,nT,nP,nU,nQ,nV,nR,e,h1,h2,h3⟩:=h;simp only[AV.agg.injEq,List.cons.injEq,AV.bool.injEq,and_true]at e;obtain⟨rfl,rfl,rfl,rfl,rfl,rfl,rfl,rfl,rfl,rfl,rfl,rfl⟩:=e;exact⟨h1,h2,h3⟩
theorem aj1{kH kr kI ku me lO mf lP mh lQ mi lR nk nh nu nj nS nO nT nP nU nQ nV nR}{t:Tw}(h:fS (.agg [.bool kH,kr,.bool kI,ku,.bool me,lO,.bool mf,lP,.bool mh,lQ,.bool mi,lR]) t.a)(h':fS (.agg [.bool nk,nh,.bool nu,nj,.bool nS,nO,.bool nT,nP,.bool nU,nQ,.bool nV,nR]) t.l):iZ [.bool kH,kr,.bool kI,ku,.bool me,lO,.bool mf,lP,.bool mh,lQ,.bool mi,lR,.bool nk,nh,.bool nu,nj,.bool nS,nO,.bool nT,nP,.bool nU,nQ,.bool nV,nR] t.qs:=by obtain⟨a1,a2,a3⟩:=Ie h;obtain⟨b1,b2,b3⟩:=Ie h';exact .cons a1 (.cons a2 (.cons a3 (.cons b1 (.cons b2 (.cons b3 .nil)))))
theorem afz{E:Env}{t len n:Nat}{ag:Bool}(h:ja E t=some (len,ag,n)){cs:List AV}:Gl E t (.aJ cs len)=some (.eU cs 0):=by
 unfold ja at h;cases hi:E.ty t with
 |none=>rw[hi]at h;cases h
 |some i=>
  rw[hi]at h;obtain⟨cS,isAgg,size,bytes,zero,eQ⟩:=i;cases cS<;>first|(cases h;done)|skip
  rename_i ln e;simp only at h;cases he:E.ty e with
  |none=>rw[he]at h;cases h
  |some ei=>
   rw[he]at h;simp only[Option.some.injEq,Prod.mk.injEq]at h;obtain⟨e1,-,-⟩:=h;subst e1;simp[Gl,hi]
theorem arA{E:Env}{t len n:Nat}{ag:Bool}(h:ja E t=some (len,ag,n)){b:Nat}:Gl E t (.aI b 0 len 1 len)=some (.b6 b 0):=by
 unfold ja at h;cases hi:E.ty t with
 |none=>rw[hi]at h;cases h
 |some i=>
  rw[hi]at h;obtain⟨cS,isAgg,size,bytes,zero,eQ⟩:=i;cases cS<;>first|(cases h;done)|skip
  rename_i ln e;simp only at h;cases he:E.ty e with
  |none=>rw[he]at h;cases h
  |some ei=>
   rw[he]at h;simp only[Option.some.injEq,Prod.mk.injEq]at h;obtain⟨e1,-,-⟩:=h;subst e1;simp[Gl,hi]
theorem xi{v:AV}{t:Tw}(h:AL v t){k:Nat}(bt:BT k t)(hk:k<=100000000000):aO E 41 [v]=some (.agg (t.qs.map fun q=>.str (bC q))):=by
 refine ep ?_;obtain⟨Kh,Kf,Ki,Kg,Nt,Np,Nu,Nq,Nv,Nr,Nw,Ns,Ko,Kl,Kp,Km,Kq,Kn,UK,UH,UL,UI,UM,UJ,rfl,ha,hb⟩:=h;have hj:=Lg (E:=E) ha hb;have hr:=aj1 ha hb;obtain⟨r,HN,hn,rfl,h2,h3,h4⟩:=Ac (E:=E) (H0:=[.cells .live [.bool Kh,Kf,.bool Ki,Kg,.bool Nt,Np,.bool Nu,Nq,.bool Nv,Nr,.bool Nw,Ns,.bool Ko,Kl,.bool Kp,Km,.bool Kq,Kn,.bool UK,UH,.bool UL,UI,.bool UM,UJ],.cells .live [.str [],.str [],.str [],.str [],.str [],.str []]]) (v:=.aJ [.bool Kh,Kf,.bool Ki,Kg,.bool Nt,Np,.bool Nu,Nq,.bool Nv,Nr,.bool Nw,Ns,.bool Ko,Kl,.bool Kp,Km,.bool Kq,Kn,.bool UK,UH,.bool UL,UI,.bool UM,UJ] 6) ⟨_,rfl,hr⟩ bt.bl hk (by simp[Tw.qs]);have A:=dQ ha;have B:=dQ hb;have M1:t.qs.length=6:=rfl;rw[M1]at hn;have h2a:=arA (E:=E) Uv (b:=2);have h5:HN[1]?=some (.cells .live [.str [],.str [],.str [],.str [],.str [],.str []]):=by rw[h3 1 (Nat.lt_succ_self 1)];rfl
 obtain⟨X,hX⟩:∃X,X=mZ t.qs:=⟨_,rfl⟩;have hX6:X=[.str (bC t.a.x),.str (bC t.a.y),.str (bC t.a.z),.str (bC t.l.x),.str (bC t.l.y),.str (bC t.l.z)]:=by rw[hX];rfl
 rw[show([cG.cells .live [.bool Kh,Kf,.bool Ki,Kg,.bool Nt,Np,.bool Nu,Nq,.bool Nv,Nr,.bool Nw,Ns,.bool Ko,Kl,.bool Kp,Km,.bool Kq,Kn,.bool UK,UH,.bool UL,UI,.bool UM,UJ],.cells .live [.str [],.str [],.str [],.str [],.str [],.str []]]:Hp).length=2 from rfl]at hn h2 h3 h4;rw[<-hX,hX6]at h4;have a4:=fun m o=>jL (n:=m) (o:=o) h4 (by decide)
 have s5:=fun m xs o=>kG (n:=m) (xs:=xs) (o:=o) h5
 have p5:∀x,dP HN 1 x=HN.set 1 x:=fun x=>eY (by omega)
 obtain⟨H6,hH6⟩:∃H6,H6=HN.set 1 (.cells .live [.str (bC t.a.x),.str (bC t.a.y),.str (bC t.a.z),.str (bC t.l.x),.str (bC t.l.y),.str (bC t.l.z)]):=⟨_,rfl⟩;have h6:H6[1]?=some (.cells .live [.str (bC t.a.x),.str (bC t.a.y),.str (bC t.a.z),.str (bC t.l.x),.str (bC t.l.y),.str (bC t.l.z)]):=by rw[hH6,aOc (by omega)]
 have a6:=fun m o=>jL (n:=m) (o:=o) h6 (by decide)
 refine mO avh ?_;intro ts hl g0;unfold c41;simp only[Tw.qs,List.map_cons,List.map_nil]
 simp(maxSteps:=1000000)only[↓aQ,aR,↓aT,aK,↓reduceIte,aa,ah,ae,Tryz.f41,ai,hl,g0,A,B,hj,hn,h2a,a4,s5,p5,<-hH6,a6]
def fJ(L:Int):List (List UInt8)->Int
 |[]=>0
 |s::t=>if dY L s≠0 then dY L s else fJ L t
theorem EF{L:Int}:∀{ss:List (List UInt8)} {i:Nat},i<ss.length->fJ L (ss.take i)=0->fJ L (ss.take (i+1))=dY L (ss.getD i [])
 |[],i,h,_=>by simp at h
 |s::t,0,_,_=>by
  simp only[aQo,aRh,fJ,List.getD_cons_zero]
  split<;>simp_all
 |s::t,i+1,h,h0=>by
  rw[aQo,fJ]at h0⊢;by_cases hs:dY L s≠0
  ·rw[if_pos hs]at h0;exact absurd h0 hs
  ·rw[if_neg hs]at h0⊢;rw[List.getD_cons_succ];exact EF (by simpa using h) h0
theorem EE{L:Int}:∀{ss:List (List UInt8)} {i:Nat},i<ss.length->fJ L (ss.take (i+1))≠0->fJ L ss=fJ L (ss.take (i+1))
 |[],i,h,_=>by simp at h
 |s::t,0,_,h=>by
  simp only[aQo,aRh,fJ]at h⊢;by_cases hs:dY L s≠0
  ·rw[if_pos hs,if_pos hs]
  ·rw[if_neg hs]at h;exact absurd rfl h
 |s::t,i+1,hi,h=>by
  rw[aQo,fJ]at h⊢;rw[fJ];by_cases hs:dY L s≠0
  ·rw[if_pos hs,if_pos hs]
  ·rw[if_neg hs]at h⊢;rw[if_neg hs];exact EE (by simpa using hi) h
def Gn(ss:List (List UInt8))(i:Nat):List Rat:=(ss.take i).map gY++aK6 (ss.length-i) 0
theorem MM{ss:List (List UInt8)}{i:Nat}(h:i<=ss.length):(Gn ss i).length=ss.length:=by unfold Gn;simp only[aMk,aOT,aMp,aU5];omega
theorem YU{ss:List (List UInt8)}{i:Nat}(h:i<ss.length):(Gn ss i).set i (gY (ss.getD i []))=Gn ss (i+1):=by
 unfold Gn;have h1:((ss.take i).map gY).length=i:=by rw[aOT,aMp];omega
 rw[List.set_append,if_neg (by omega),h1,Nat.sub_self,show ss.length-i=(ss.length-(i+1))+1 by omega,aQf,aU2,aUY h,List.map_append,aS1];rw[aSW,aMh h,aNt];rfl
theorem Yk{ss:List (List UInt8)}{i:Nat}(h:i<ss.length):iR false 1 (ss.map AV.str) i=some (.str (ss.getD i [])):=by simp[iR,h,aSW]
theorem QA{H:Hp}{b m s:Nat}{cs:List AV}{st:iH}{y:AV}(h:H[b]?=some (.cells st cs))(hd:st≠ .dead)(hm:cs.length=m*s)(hf:∀v∈cs,Flat v)(hy:Flat y):oG false H [.tuple [.aI b 0 m s m,y]]=some ([.tuple [.aJ cs m,y]],[b]):=by
 rw[kV];have h2:List.take (m*s) (List.drop 0 cs)=cs:=by rw[List.drop_zero,<-hm,aR7]
 have h3:=kD (n:=38) (off:=0) (len:=m) (esz:=s) (k:=m) h hd (by omega) (by rw[h2];exact fj hf);have h4:fz H 40 (.tuple [.aI b 0 m s m,y])=some (.tuple [.aJ cs m,y],[b]):=by unfold fz;simp only;unfold dh;rw[h3];unfold dh;rw[hy H 38];unfold dh;simp only[gn,dH,Option.map_some,List.map_cons,List.map_nil,List.flatMap_cons,List.flatMap_nil,List.append_nil]
 unfold bW;rw[show bE [AV.tuple [.aI b 0 m s m,y]]=false by simp[bE,aN]];simp only[aLs,if_false];unfold dh;rw[h4];unfold dh;rfl
theorem Uy{f:Nat}{L:Int}(hf:cg E f=false){ss:List (List UInt8)}(hs:∀s∈ss,s.length<=4611686018427387904)(hn:ss.length<=1000)
  (hr:∀s:List UInt8,s.length<=4611686018427387904->∃r,aO E f [.str s]=some (.tuple [r,.int .i64 (dY L s)])/\cX r (if dY L s=0 then gY s else 0)):
  ∃r,aO E 95 [.aJ (ss.map AV.str) ss.length,.func f [] []]=some (.tuple [r,.int .i64 (fJ L ss)])/\(fJ L ss=0->gy r (ss.map gY))/\(fJ L ss≠0->r=.aH):=by
 suffices hh:∃u,aO E 95 [.aJ (ss.map AV.str) ss.length,.func f [] []]=some u/\∃r,u=.tuple [r,.int .i64 (fJ L ss)]/\(fJ L ss=0->gy r (ss.map gY))/\(fJ L ss≠0->r=.aH)by
  obtain⟨u,h1,r,rfl,h2⟩:=hh;exact⟨r,h1,h2⟩
 have wH:=fun{dr st:Bool} {bl:List AV} {H:Hp} {k:AV->cJ->Prop}=>lu (E:=E) (dr:=dr) (st:=st) (f:=f) (bl:=bl) (H:=H) (k:=k) hf
 have J2:=fun aM=>yP (E:=E) (aM:=aM) (m:=ss.length) (k:=.i64) (k':=.i64) (by omega)
 refine tS avW ?_;intro ts hl g0 g1;unfold c95;simp only[↓aQ,aR,aK,aa,ae,Tryz.f95,hl,g0,J2];refine fh (fun k_ ts H=>∃i cs,k_=ss.length-i/\ts.length=34/\gt ts 1=.func f [] []/\gt ts 6=.aI 0 0 ss.length 4 ss.length/\gt ts 13=.aJ (ss.map AV.str) ss.length/\gt ts 14=.int .i64 (ss.length:Int)/\gt ts 15=.int .i64 (i:Int)/\H=[.cells .live cs]/\(i<=ss.length)/\(iZ cs (Gn ss i))/\(fJ L (ss.take i)=0)) (ss.length) ?_ ?_
 rotate_left
 ·refine⟨0,(iG [.bool false,.aH,.bool false,.aH] ss.length),(by first|omega|rfl|(simp;done)),(by simp only[cK,hl]),?_⟩;simp only[cM,hl,aa,ae,g1]
  iterate 6 refine⟨by first|trivial|rfl|(congr 1;omega)|(simp;done)|(simp;omega),?_⟩
  refine⟨?_,?_,?_⟩
  ·omega
  ·exact iZ.FD _
  ·rfl
 clear hl g0 g1 ts;rintro k_ ts H ⟨i,cs,rfl,hl,g1,g6,g13,g14,g15,rfl,hi,hc,h0⟩;refine VS ?_;have iE:=hc.len;rw[MM hi]at iE;by_cases hd:i<ss.length
 ·have dc:decide ((i:Int)<(ss.length:Int))=true:=cF (by omega);have oF:((i:Int)<(ss.length:Int))=True:=eq_true (by omega);have w1:aV .i64 ((i:Int)+1)=((i+1:Nat):Int):=by rw[wrap_i64 (by omega) (by omega)];omega
  have p1:=Yk hd;have I3:ss.getD i []∈ss:=by rw[aSW,aMh hd,aNt];exact aMo hd
  have hcd:=EF hd h0;obtain⟨r,B5,ir⟩:=hr _ (hs _ I3);obtain⟨n5,m5,n6,m6,_,_,rfl,-,-,-,-⟩:=bR ir;have D:=aU _ ir;have fK:=xe (H:=[.cells .live cs]) (b:=0) (o:=i*4) (cs:=cs) (xs:=[.bool n5,m5,.bool n6,m6]) rfl rfl (by omega) (by simp only[aOV,qp,D.2.1,D.2.2.2,List.all_nil,aRg]);have R6:decide (i*4+4<=cs.length)=true:=cF (by omega);by_cases hz:dY L (ss.getD i [])=0
  ·rw[hz]at B5;rw[if_pos hz]at ir;have oK:=hc.set (i:=i) (by rw[MM hi];exact hd) ir;rw[YU hd]at oK;simp only[↓aQ,aR,aK,↓reduceIte,aa,ah,ae,aE,hl,g1,g6,g13,g14,g15,oF,w1,p1,wH,B5,fK];refine dO ?_;refine⟨_,?_,i+1,dE cs (i*4) [.bool n5,m5,.bool n6,m6],rfl,(by simp only[cK,hl]),?_⟩
   ·first|omega|(simp;omega)
   simp only[cM,hl,aa,ae,g1,g6,g13,g14]
   iterate 6 refine⟨by first|trivial|rfl|(congr 1;omega)|(simp;done)|(simp;omega),?_⟩
   refine⟨?_,?_,?_⟩
   ·omega
   ·exact oK
   ·rw[hcd];exact hz
  ·have hzb:(dY L (ss.getD i [])!=0)=true:=bne_iff_ne.2 hz;have KY:=EE hd (by rw[hcd];exact hz);rw[hcd]at KY;simp only[↓aQ,aR,aK,↓reduceIte,aa,ah,ae,hl,g1,g6,g13,g14,g15,oF,p1,wH,B5,fK,hzb];rw[KY];exact⟨_,rfl,fun e=>absurd e hz,fun _=>rfl⟩
 ·have dc:decide ((i:Int)<(ss.length:Int))=false:=cH (by omega);obtain rfl:i=ss.length:=by omega
  have gf:=QA (H:=[.cells .live cs]) (b:=0) (m:=ss.length) (s:=4) (st:=.live) (y:=.int .i64 0) rfl (by decide) iE hc.flat (fun _ _=>rfl);rw[aR7]at h0;have hv:Gn ss ss.length=ss.map gY:=by simp[Gn]
  rw[hv]at hc;simp only[↓aQ,aR,↓reduceIte,aa,ae,hl,g6,g14,g15,dc,gf];rw[h0];exact⟨_,rfl,fun _=>⟨cs,by rw[aOT],hc⟩,fun e=>absurd rfl e⟩
end Go.Proofs.YtblnjkjjedanaaaGreatDoor
