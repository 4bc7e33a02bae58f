/- A part of the proof that PairRefuses returns true for every input; no condition of its own. -/
import Derived.Test.YtblnjkjjedanaaaGreatDoorTap
set_option linter.all false
set_option maxHeartbeats 100000000
set_option maxRecDepth 100000
open Rat renaming divInt->aTV,num_divInt_den->aTY,num_divInt->aT5,den_divInt->aT6,num_intCast->aT8,den_intCast->aT9,divInt_mul_divInt->aUb,sub_eq_add_neg->aUe,neg_num->aUi,neg_den->aUj
open Int renaming gcd->aTW,natAbs_natCast->aTX,sign_eq_one_of_pos->aTZ,gcd_dvd_natAbs_right->aT1,gcd_comm->aT2,gcd_dvd_right->aT3,ediv_pos_of_pos_of_dvd->aT7,gcd_pos_iff->aUa,lt_trichotomy->aUf,one_mul->aUh,reduceLE->an,reduceLT->ao,reduceToNat->aq,reduceGE->au,reduceAdd->aA,reduceNeg->aB,reduceBEq->aD,reduceBNe->aE,reduceEq->aF
open List renaming all_eq_true->aMa,dropWhile_cons->aT0,mem_reverse->aT4,takeWhile_cons->aUd,not_mem_nil->aUn
open Nat renaming lt_of_le_of_lt->aR2,pow_le_pow_right->aRX,lt_of_lt_of_le->aNU,pos_of_ne_zero->aSh,le_trans->aNR,add_comm->aS8,le_of_dvd->aUc,mul_pos->aUk,reduceLT->aa,reduceEqDiff->ae,reduceAdd->ah,reduceLeDiff->ai,reduceMul->ak
open Bool renaming eq_false_iff->aUg
open Option renaming map_some->aNj
namespace Go.Proofs.YtblnjkjjedanaaaGreatDoor
open Go Dv Dv.bV
variable{E:Env}[C:Ctx E]
def cX(v:AV)(q:Rat):Prop:=∃na ma nb mb e,v=.agg [.bool na,ma,.bool nb,mb]/\fk (.agg [.bool na,ma]) q.num/\fk (.agg [.bool nb,mb]) e/\(e=(q.den:Int)∨(e=0/\q.den=1))
def Bq(k:Nat)(q:Rat):Prop:=q.num.natAbs<2^k/\q.den<2^k
theorem eM{z:Int}{k:Nat}(h:z.natAbs<2^k)(hk:k<=300000000000):Fit z:=by refine⟨k/32+1,by omega,aNU h ?_⟩;rw[show(4294967296:Nat)=2^32 from rfl,<-Nat.pow_mul];exact aRX (by omega) (by omega)
theorem fF{z:Nat}{k:Nat}(h:z<2^k)(hk:k<=300000000000):Fit (z:Int):=eM (by rw[aTX];exact h) hk
theorem zn{x y:Int}{k l:Nat}(h:x.natAbs<2^k)(h':y.natAbs<2^l):(x*y).natAbs<2^(k+l):=by rw[Int.natAbs_mul,Nat.pow_add];exact Nat.mul_lt_mul'' h h'
theorem Kk{x y:Int}{k:Nat}(h:x.natAbs<2^k)(h':y.natAbs<2^k):(x+y).natAbs<2^(k+1):=by rw[Nat.pow_succ];omega
theorem lE{x k l:Nat}(h:x<2^k)(hl:k<=l):x<2^l:=aNU h (aRX (by omega) hl)
theorem Bq.mono{k l:Nat}{q:Rat}(h:Bq k q)(hl:k<=l):Bq l q:=⟨lE h.1 hl,lE h.2 hl⟩
theorem jA(q:Rat):0<q.den:=aSh q.den_nz
theorem Bq.pos{k:Nat}{q:Rat}(h:Bq k q):0<k:=by
 refine aSh fun e=>?_
 subst e
 have:=h.2
 have:=jA q
 omega
theorem Bq.int{k:Nat}{z:Int}(h:z.natAbs<2^k)(hk:0<k):Bq k (z:Rat):=by
 refine⟨by rw[aT8];exact h,?_⟩;rw[aT9]
 have:2^1<=2^k:=aRX (by omega) hk
 omega
theorem Bq.divInt{k:Nat}{a b:Int}(hb:b≠0)(h1:a.natAbs<2^k)(h2:b.natAbs<2^k):Bq k (aTV a b):=by
 have hg:0<b.gcd a:=aSh fun e=>hb (Int.gcd_eq_zero_iff.1 e).1
 constructor
 ·rw[aT5];refine aR2 ?_ h1;refine aNR (Int.natAbs_ediv_le_natAbs _ _) ?_;rw[Int.natAbs_mul]
  have:b.sign.natAbs<=1:=by
   rcases aUf b 0 with h|h|h
   ·rw[Int.sign_eq_neg_one_of_neg h];decide
   ·exact absurd h hb
   ·rw[aTZ h];decide
  have:=Nat.mul_le_mul_right a.natAbs this
  omega
 ·rw[aT6,if_neg hb];exact aR2 (Nat.div_le_self _ _) h2
theorem wU:∃r,aO E 89 []=some r/\fk r 1:=by obtain⟨v,hv,hi⟩:=xK C (n:=1) (by omega) (by omega);have hp:=dz hi;obtain⟨na,m,l,rfl,hm,hn,th,hz⟩:=id hi;refine gw0 avS ?_;intro ts hl;unfold c89;simp only[↓aQ,aR,↓aT,aK,↓reduceIte,aa,ah,ae,Tryz.f89,hl,hv,aL hm,(aY hm).2];exact hi
theorem vZ{z:Int}:pP z z=0:=by unfold pP;rw[if_neg (by omega),if_neg (by omega)]
theorem zx{a b:Int}(h:b<a):pP a b=1:=by unfold pP;rw[if_neg (by omega),if_pos h]
theorem ac3{z:Int}(h:z<0):xd z= -1:=by unfold xd;rw[if_neg (by omega),if_pos h]
theorem JF{z:Int}(h:0<z):xd z=1:=by unfold xd;rw[if_neg (by omega),if_neg (by omega)]
theorem L7{v w:AV}{a b:Int}(h:fk v a)(k:fk w b)(fa:Fit a)(fb:Fit b)(hb:0<b):
  ∃r,aO E 109 [v,w]=some r/\cX r (aTV a b):=by
 have hg:0<aTW a b:=aUa.2 (.inr (by omega));obtain⟨g,hgc,gi⟩:=tR (E:=E) h k fa fb;obtain⟨o,K3,oi⟩:=wU (E:=E);have fg:Fit ((aTW a b:Nat):Int):=by obtain⟨n,h1,h2⟩:=fb;refine⟨n,h1,aR2 ?_ h2⟩;rw[aTX];exact aUc (by omega) (aT1 _ _)
 have f1:Fit 1:=⟨1,by omega,by decide⟩;have Em:=kj C gi oi fg f1;have vI:(aTV a b).num=a/((aTW a b:Nat):Int):=by rw[aT5,aTZ hb,aUh,aT2]
 have Wf:((aTV a b).den:Int)=b/((aTW a b:Nat):Int):=by rw[aT6,if_neg (by omega),aT2 b a,Int.natCast_ediv];congr 1;omega
 have tE:=jX C k;rw[JF hb]at tE;have hbg:0<b/((aTW a b:Nat):Int):=aT7 hb (by omega) (aT3 _ _);obtain⟨q1,r1,uK,i1,j1⟩:=nF (E:=E) h gi fa fg (by omega) (Int.gcd_dvd_left _ _);obtain⟨q2,r2,xL,i2,j2⟩:=nF (E:=E) k gi fb fg (by omega) (aT3 _ _);rw[<-vI]at i1;rw[<-Wf]at i2;have j7:∀x y,fk x (aTV a b).num->fk y ((aTV a b).den:Int)->∀n m n' m',x=.agg [.bool n,m]->y=.agg [.bool n',m']->cX (.agg [.bool n,m,.bool n',m']) (aTV a b):=by intro x y hx hy n m n' m' e1 e2;subst e1 e2;exact⟨n,m,n',m',_,rfl,hx,hy,.inl rfl⟩
 have hv1:aTW a b=1->fk v (aTV a b).num:=by
  intro e;rw[vI,e];simpa using h
 have vM:aTW a b=1->fk w ((aTV a b).den:Int):=by
  intro e;rw[Wf,e];simpa using k
 obtain⟨na,m,l,rfl,hm,-,-,-⟩:=id h;obtain⟨nb,m',l',rfl,kM,-,-,-⟩:=id k;obtain⟨ng,mg,lg,rfl,T7,-,-,-⟩:=id gi;obtain⟨no,mo,lo,rfl,AB,-,-,-⟩:=id oi;obtain⟨n1,m1,l1,rfl,xN,-,-,-⟩:=id i1;obtain⟨n2,m2,l2,rfl,FG,-,-,-⟩:=id i2;obtain⟨n3,m3,l3,rfl,J1,-,-,-⟩:=id j1;obtain⟨n4,m4,l4,rfl,K1,-,-,-⟩:=id j2;refine tS aep ?_;intro ts hl g0 g1;unfold agt;by_cases h1:aTW a b=1
 ·rw[h1,show((1:Nat):Int)=1 from rfl,vZ]at Em;simp only[↓aQ,aR,↓aT,aK,↓reduceIte,aa,ah,ae,ao,Tryz.f109,ai,aE,hl,g0,g1,tE,hgc,K3,Em,aL hm,aL kM,aL T7,aL AB,(aY hm).2,(aY kM).2,(aY T7).2];exact j7 _ _ (hv1 h1) (vM h1) _ _ _ _ rfl rfl
 ·rw[zx (by omega)]at Em;simp only[↓aQ,aR,↓aT,aK,↓reduceIte,aa,ah,ae,ao,Tryz.f109,ai,aE,hl,g0,g1,tE,hgc,K3,Em,uK,xL,aL hm,aL kM,aL T7,aL AB,(aY T7).2,aL xN,aL FG,(aY xN).2,(aY FG).2];exact j7 _ _ i1 i2 _ _ _ _ rfl rfl
theorem L5{v0 w0:AV}{a0 b0:Int}(h0:fk v0 a0)(k0:fk w0 b0)(fa0:Fit a0)(fb0:Fit b0)(C6:b0<0):
  ∃r,aO E 109 [v0,w0]=some r/\cX r (aTV a0 b0):=by
 have tE:=jX C k0;rw[ac3 C6]at tE;obtain⟨v,hnv,h⟩:=EY C h0;obtain⟨w,hnw,k⟩:=EY C k0;have fa:=Qx fa0;have fb:=Qx fb0;have hb:0< -b0:=by omega
 have T2:aTV a0 b0=aTV (-a0) (-b0):=by
  have:=Rat.divInt_mul_right (n:=a0) (d:=b0) (a:= -1) (by decide)
  rw[<-this];congr 1<;>omega
 rw[T2];obtain⟨nx,mx,lx,rfl,Zs,-,-,-⟩:=id h0;obtain⟨ny,my,ly,rfl,hmy,-,-,-⟩:=id k0;clear h0 k0 T2;generalize-a0=a at*;generalize-b0=b at*;have hg:0<aTW a b:=aUa.2 (.inr (by omega));obtain⟨g,hgc,gi⟩:=tR (E:=E) h k fa fb;obtain⟨o,K3,oi⟩:=wU (E:=E);have fg:Fit ((aTW a b:Nat):Int):=by obtain⟨n,h1,h2⟩:=fb;refine⟨n,h1,aR2 ?_ h2⟩;rw[aTX];exact aUc (by omega) (aT1 _ _)
 have f1:Fit 1:=⟨1,by omega,by decide⟩;have Em:=kj C gi oi fg f1;have vI:(aTV a b).num=a/((aTW a b:Nat):Int):=by rw[aT5,aTZ hb,aUh,aT2]
 have Wf:((aTV a b).den:Int)=b/((aTW a b:Nat):Int):=by rw[aT6,if_neg (by omega),aT2 b a,Int.natCast_ediv];congr 1;omega
 have hbg:0<b/((aTW a b:Nat):Int):=aT7 hb (by omega) (aT3 _ _);obtain⟨q1,r1,uK,i1,j1⟩:=nF (E:=E) h gi fa fg (by omega) (Int.gcd_dvd_left _ _);obtain⟨q2,r2,xL,i2,j2⟩:=nF (E:=E) k gi fb fg (by omega) (aT3 _ _);rw[<-vI]at i1;rw[<-Wf]at i2;have j7:∀x y,fk x (aTV a b).num->fk y ((aTV a b).den:Int)->∀n m n' m',x=.agg [.bool n,m]->y=.agg [.bool n',m']->cX (.agg [.bool n,m,.bool n',m']) (aTV a b):=by intro x y hx hy n m n' m' e1 e2;subst e1 e2;exact⟨n,m,n',m',_,rfl,hx,hy,.inl rfl⟩
 have hv1:aTW a b=1->fk v (aTV a b).num:=by
  intro e;rw[vI,e];simpa using h
 have vM:aTW a b=1->fk w ((aTV a b).den:Int):=by
  intro e;rw[Wf,e];simpa using k
 obtain⟨na,m,l,rfl,hm,-,-,-⟩:=id h;obtain⟨nb,m',l',rfl,kM,-,-,-⟩:=id k;obtain⟨ng,mg,lg,rfl,T7,-,-,-⟩:=id gi;obtain⟨no,mo,lo,rfl,AB,-,-,-⟩:=id oi;obtain⟨n1,m1,l1,rfl,xN,-,-,-⟩:=id i1;obtain⟨n2,m2,l2,rfl,FG,-,-,-⟩:=id i2;obtain⟨n3,m3,l3,rfl,J1,-,-,-⟩:=id j1;obtain⟨n4,m4,l4,rfl,K1,-,-,-⟩:=id j2;refine tS aep ?_;intro ts hl g0 g1;unfold agt;by_cases h1:aTW a b=1
 ·rw[h1,show((1:Nat):Int)=1 from rfl,vZ]at Em;simp only[↓aQ,aR,↓aT,aK,↓reduceIte,aa,ah,ae,ao,Tryz.f109,ai,aB,aE,hl,g0,g1,tE,hnv,hnw,aL Zs,aL hmy,hgc,K3,Em,aL hm,aL kM,aL T7,aL AB,(aY hm).2,(aY kM).2,(aY T7).2];exact j7 _ _ (hv1 h1) (vM h1) _ _ _ _ rfl rfl
 ·rw[zx (by omega)]at Em;simp only[↓aQ,aR,↓aT,aK,↓reduceIte,aa,ah,ae,ao,Tryz.f109,ai,aB,aE,hl,g0,g1,tE,hnv,hnw,aL Zs,aL hmy,hgc,K3,Em,uK,xL,aL hm,aL kM,aL T7,aL AB,(aY hm).2,(aY kM).2,(aY T7).2,aL xN,aL FG,(aY xN).2,(aY FG).2];exact j7 _ _ i1 i2 _ _ _ _ rfl rfl
theorem qS{v w:AV}{a b:Int}(h:fk v a)(k:fk w b)(fa:Fit a)(fb:Fit b)(hb:b≠0):
  ∃r,aO E 109 [v,w]=some r/\cX r (aTV a b):=by
 rcases aUf b 0 with h1|h1|h1
 ·exact L5 h k fa fb h1
 ·exact absurd h1 hb
 ·exact L7 h k fa fb h1
theorem bR{v:AV}{q:Rat}(h:cX v q):∃na ma nb mb l l',v=.agg [.bool na,ma,.bool nb,mb]/\fk (.agg [.bool na,ma]) q.num/\fG ma l/\fG mb l'/\((fk (.agg [.bool nb,mb]) 0/\q.den=1)∨fk (.agg [.bool nb,mb]) (q.den:Int)):=by
 obtain⟨na,ma,nb,mb,e,rfl,h1,h2,h3⟩:=h;obtain⟨_,_,l,e1,hm,-,-,-⟩:=id h1;obtain⟨_,_,l',e2,kM,-,-,-⟩:=id h2;simp only[AV.agg.injEq,List.cons.injEq,AV.bool.injEq,and_true]at e1 e2;obtain⟨-,rfl⟩:=e1;obtain⟨-,rfl⟩:=e2;refine⟨na,ma,nb,mb,l,l',rfl,h1,hm,kM,?_⟩;rcases h3 with rfl|⟨rfl,h3⟩
 ·exact .inr h2
 ·exact .inl ⟨h2,h3⟩
theorem jm{v:AV}{q:Rat}(h:cX v q):aN v=true:=by obtain⟨na,ma,nb,mb,l,l',rfl,-,h1,h2,-⟩:=bR h;simp[aN,bE,aL h1,aL h2]
theorem mF{v:AV}{q:Rat}(h:cX v q):∃r,aO E 105 [v]=some r/\fk r (q.den:Int):=by
 obtain⟨na,ma,nb,mb,l,l',rfl,h1,hm,kM,h2⟩:=bR h;refine mO amI ?_;intro ts hl g0;unfold alz;rcases h2 with⟨h2,h3⟩|h2
 ·obtain⟨o,K3,oi⟩:=wU (E:=E);obtain⟨no,mo,lo,rfl,AB,-,-,-⟩:=id oi;have tE:=jX C h2;rw[show xd 0=0 from rfl]at tE;simp only[↓aQ,aR,↓aT,aK,↓reduceIte,aa,ah,ae,Tryz.f105,hl,g0,aL kM,tE,K3,aL AB,(aY AB).2];rw[h3];exact oi
 ·have tE:=jX C h2;rw[JF (by have:=jA q;omega)]at tE;simp only[↓aQ,aR,↓aT,aK,↓reduceIte,aa,ah,ae,Tryz.f105,aD,hl,g0,aL kM,tE,(aY kM).2];exact h2
theorem nf{v:AV}{q:Rat}(h:cX v q){k:Nat}(hk:Bq k q)(qY:k<=100000000000):aO E 50 [v]=some (.bool (decide (q.den=1))):=by
 refine ep ?_;obtain⟨na,ma,nb,mb,l,l',rfl,h1,hm,kM,h2⟩:=bR h;refine mO avl ?_;intro ts hl g0;unfold c50;rcases h2 with⟨h2,h3⟩|h2
 ·have tE:=jX C h2;rw[show xd 0=0 from rfl]at tE;simp only[↓aQ,aR,↓aT,aK,↓reduceIte,aa,ah,ae,Tryz.f50,hl,g0,aL kM,tE];rw[cF h3]
 ·have tE:=jX C h2;have QH:=jA q;rw[JF (by omega)]at tE;obtain⟨o,K3,oi⟩:=wU (E:=E);have Em:=kj C h2 oi (fF hk.2 (by omega)) ⟨1,by omega,by decide⟩;obtain⟨no,mo,lo,rfl,AB,-,-,-⟩:=id oi;have hc:(pP (q.den:Int) 1==0)=decide (q.den=1):=by
   by_cases hd:q.den=1
   ·rw[hd,show((1:Nat):Int)=1 from rfl,vZ];rfl
   ·rw[zx (by omega),cH hd];rfl
  simp only[↓aQ,aR,↓aT,aK,↓reduceIte,aa,ah,ae,Tryz.f50,aD,hl,g0,aL kM,tE,K3,Em,aL AB,hc]
theorem WK:fk (.agg [.bool false,.aH]) 0:=⟨false,.aH,[],rfl,⟨by simp,.inr ⟨rfl,.inl rfl⟩⟩,by intro a b c;simp at c,by simp,by simp[val]⟩
theorem Ai{n:Bool}{m:AV}{z:Int}(h:fk (.agg [.bool n,m]) z):cX (.agg [.bool n,m,.bool false,.aH]) (z:Rat):=
 ⟨n,m,false,.aH,0,rfl,by rw[aT8];exact h,WK,.inr ⟨rfl,aT9 _⟩⟩
theorem C4{q:Rat}(h:q.den=1):q=(q.num:Rat):=Rat.ext (by rw[aT8]) (by rw[aT9,h])
theorem qC:cX (.agg [.bool false,.aH,.bool false,.aH]) 0:=Ai (z:=0) WK
theorem jh{v:AV}{q:Rat}(h:cX v q):aO E 38 [v]=some (.int .i64 (xd q.num)):=by refine ep ?_;obtain⟨na,ma,nb,mb,l,l',rfl,h1,hm,kM,h2⟩:=bR h;have tE:=jX C h1;refine mO avf ?_;intro ts hl g0;unfold c38;simp only[↓aQ,aR,↓aT,aK,↓reduceIte,aa,ah,ae,Tryz.f38,ai,hl,g0,aL hm,tE]
theorem Xe{v:AV}{q:Rat}(h:cX v q):∃r,aO E 108 [v]=some r/\fk r q.num:=by obtain⟨na,ma,nb,mb,l,l',rfl,h1,hm,kM,h2⟩:=bR h;refine mO amK ?_;intro ts hl g0;unfold alB;simp only[↓aQ,aR,aK,↓reduceIte,aa,ah,ae,Tryz.f108,ai,hl,g0,aL hm,(aY hm).2];exact h1
theorem jJ{n:Int}(h0: -9223372036854775808<=n)(h1:n<9223372036854775808):∃r,aO E 18 [.int .i64 n]=some r/\cX r (n:Rat):=by obtain⟨v,hv,hi⟩:=xK C h0 h1;obtain⟨na,m,l,rfl,hm,-,-,-⟩:=id hi;refine mO au2 ?_;intro ts hl g0;unfold c18;simp only[↓aQ,aR,↓aT,aK,↓reduceIte,aa,ah,ae,Tryz.f18,ai,hl,g0,hv,aL hm,(aY hm).2];exact Ai hi
theorem ru{v:AV}{q:Rat}(h:cX v q):∃r,aO E 137 [v]=some r/\cX r (-q):=by
 obtain⟨na,ma,nb,mb,l,l',rfl,h1,hm,kM,h2⟩:=bR h;obtain⟨n,hn,ni⟩:=EY C h1;obtain⟨nn,mn,ln,rfl,hmn,-,-,-⟩:=id ni;have j7:cX (.agg [.bool nn,mn,.bool nb,mb]) (-q):=by
  rcases h2 with⟨h2,h3⟩|h2
  ·exact⟨nn,mn,nb,mb,0,rfl,by rw[aUi];exact ni,h2,.inr ⟨rfl,by rw[aUj];exact h3⟩⟩
  ·exact⟨nn,mn,nb,mb,_,rfl,by rw[aUi];exact ni,h2,.inl (by rw[aUj])⟩
 refine mO amX ?_;intro ts hl g0;unfold alN;simp only[↓aQ,aR,↓aT,aK,↓reduceIte,aa,ah,ae,Tryz.f137,ai,hl,g0,aL hm,aL kM,hn,aL hmn,(aY hmn).2,(aY kM).2];exact j7
theorem Bq.neg{k:Nat}{q:Rat}(h:Bq k q):Bq k (-q):=by
 refine⟨?_,?_⟩
 ·rw[aUi,Int.natAbs_neg];exact h.1
 ·rw[aUj];exact h.2
theorem EX(q p:Rat):q*p=aTV (q.num*p.num) ((q.den:Int)*p.den):=by rw[<-aUb,aTY,aTY]
theorem Dz(q p:Rat):q+p=aTV (q.num*(p.den:Int)+p.num*(q.den:Int)) ((q.den:Int)*p.den):=by
 rw[<-Rat.divInt_add_divInt _ _ (by have:=q.den_nz;omega) (by have:=p.den_nz;omega),aTY,aTY]
theorem uH(q p:Rat):(q.den:Int)*p.den≠0:=by
 have h1:=jA q;have h2:=jA p
 have:=aUk h1 h2
 rw[<-Int.natCast_mul];omega
theorem bits_nat{x y k l:Nat}(h:x<2^k)(h':y<2^l):((x:Int)*(y:Int)).natAbs<2^(k+l):=zn (by rw[aTX];exact h) (by rw[aTX];exact h')
theorem ph{x:Int}{y k l:Nat}(h:x.natAbs<2^k)(h':y<2^l):(x*(y:Int)).natAbs<2^(k+l):=zn h (by rw[aTX];exact h')
theorem Bq.mul{k l:Nat}{q p:Rat}(h:Bq k q)(h':Bq l p):Bq (k+l) (q*p):=by rw[EX];exact Bq.divInt (uH _ _) (zn h.1 h'.1) (bits_nat h.2 h'.2)
theorem Bq.add{k l:Nat}{q p:Rat}(h:Bq k q)(h':Bq l p):Bq (k+l+1) (q+p):=by
 rw[Dz];exact Bq.divInt (uH _ _) (Kk (ph h.1 h'.2) (by rw[aS8 k l];exact ph h'.1 h.2)) (lE (bits_nat h.2 h'.2) (by omega))
theorem gv{v w:AV}{q p:Rat}(h:cX v q)(h':cX w p){k l:Nat}(b:Bq k q)(b':Bq l p)(hk:k+l<=100000000000):∃r,aO E 67 [v,w]=some r/\cX r (q*p):=by
 have vM:=nf (E:=E) h b (by omega);have wN:=nf (E:=E) h' b' (by omega);obtain⟨d1,uK,Uf⟩:=mF (E:=E) h;obtain⟨d2,xL,Ug⟩:=mF (E:=E) h';obtain⟨na,ma,nb,mb,l1,l1',rfl,h1,hm,kM,-⟩:=bR h;obtain⟨nc,mc,nd,md,l2,l2',rfl,h2,hn,yo,-⟩:=bR h';obtain⟨x,hx,ix⟩:=k7 C h1 h2 (eM b.1 (by omega)) (eM b'.1 (by omega));obtain⟨nx,mx,lx,rfl,Zs,-,-,-⟩:=id ix;refine tS avD ?_;intro ts hl g0 g1;unfold c67;by_cases hq:q.den=1/\p.den=1
 ·rw[cF hq.1]at vM;rw[cF hq.2]at wN;simp only[↓aQ,aR,↓aT,aK,↓reduceIte,aa,ah,ae,Tryz.f67,ai,hl,g0,g1,vM,wN,hx,aL hm,aL kM,aL hn,aL yo,aL Zs,(aY Zs).2];rw[C4 hq.1,C4 hq.2,<-Rat.intCast_mul];exact Ai ix
 ·obtain⟨y,hy,iy⟩:=k7 C Uf Ug (fF b.2 (by omega)) (fF b'.2 (by omega));obtain⟨r,hr,ir⟩:=qS (E:=E) ix iy (eM (zn b.1 b'.1) (by omega)) (eM (bits_nat b.2 b'.2) (by omega)) (uH _ _);rw[<-EX]at ir;have Zx:=dz Uf;have Zy:=dz Ug;have py:=dz iy;obtain⟨n3,m3,n4,m4,l3,l3',rfl,-,J1,K1,-⟩:=bR ir;by_cases Ub:q.den=1
  ·have Wv:p.den≠1:=fun e=>hq ⟨Ub,e⟩
   rw[cF Ub]at vM;rw[cH Wv]at wN;simp only[↓aQ,aR,↓aT,aK,↓reduceIte,aa,ah,ae,Tryz.f67,ai,hl,g0,g1,vM,wN,hx,hy,hr,uK,xL,Zx,Zy,py,aL hm,aL kM,aL hn,aL yo,aL Zs,aL J1,aL K1,(aY J1).2,(aY K1).2];exact ir
  ·rw[cH Ub]at vM;simp only[↓aQ,aR,↓aT,aK,↓reduceIte,aa,ah,ae,Tryz.f67,ai,hl,g0,g1,vM,hx,hy,hr,uK,xL,Zx,Zy,py,aL hm,aL kM,aL hn,aL yo,aL Zs,aL J1,aL K1,(aY J1).2,(aY K1).2];exact ir
theorem lI{v w:AV}{q p:Rat}(h:cX v q)(h':cX w p){k l:Nat}(b:Bq k q)(b':Bq l p)(hk:k+l<=100000000000):∃r,aO E 114 [v,w]=some r/\cX r (q+p):=by
 have vM:=nf (E:=E) h b (by omega);have wN:=nf (E:=E) h' b' (by omega);obtain⟨d1,uK,Uf⟩:=mF (E:=E) h;obtain⟨d2,xL,Ug⟩:=mF (E:=E) h';obtain⟨na,ma,nb,mb,l1,l1',rfl,h1,hm,kM,-⟩:=bR h;obtain⟨nc,mc,nd,md,l2,l2',rfl,h2,hn,yo,-⟩:=bR h';refine tS amN ?_;intro ts hl g0 g1;unfold alE;by_cases hq:q.den=1/\p.den=1
 ·obtain⟨x,hx,ix⟩:=Ke C h1 h2 (eM b.1 (by omega)) (eM b'.1 (by omega));obtain⟨nx,mx,lx,rfl,Zs,-,-,-⟩:=id ix;rw[cF hq.1]at vM;rw[cF hq.2]at wN;simp only[↓aQ,aR,↓aT,aK,↓reduceIte,aa,ah,ae,Tryz.f114,ai,hl,g0,g1,vM,wN,hx,aL hm,aL kM,aL hn,aL yo,aL Zs,(aY Zs).2];rw[C4 hq.1,C4 hq.2,<-Rat.intCast_add];exact Ai ix
 ·obtain⟨x1,Oz,ix1⟩:=k7 C h1 Ug (eM b.1 (by omega)) (fF b'.2 (by omega));obtain⟨x2,OA,ix2⟩:=k7 C h2 Uf (eM b'.1 (by omega)) (fF b.2 (by omega));have bx1:=ph b.1 b'.2;have bx2:=ph b'.1 b.2;rw[aS8 l k]at bx2;obtain⟨x,hx,ix⟩:=Ke C ix1 ix2 (eM bx1 (by omega)) (eM bx2 (by omega));obtain⟨y,hy,iy⟩:=k7 C Uf Ug (fF b.2 (by omega)) (fF b'.2 (by omega));obtain⟨r,hr,ir⟩:=qS (E:=E) ix iy (eM (Kk bx1 bx2) (by omega)) (eM (bits_nat b.2 b'.2) (by omega)) (uH _ _);rw[<-Dz]at ir;have Zx:=dz Uf;have Zy:=dz Ug;have px1:=dz ix1;have px2:=dz ix2;have px:=dz ix;have py:=dz iy;obtain⟨n3,m3,n4,m4,l3,l3',rfl,-,J1,K1,-⟩:=bR ir;by_cases Ub:q.den=1
  ·have Wv:p.den≠1:=fun e=>hq ⟨Ub,e⟩
   rw[cF Ub]at vM;rw[cH Wv]at wN;simp only[↓aQ,aR,↓aT,aK,↓reduceIte,aa,ah,ae,Tryz.f114,ai,hl,g0,g1,vM,wN,Oz,OA,hx,hy,hr,uK,xL,Zx,Zy,px1,px2,px,py,aL hm,aL kM,aL hn,aL yo,aL J1,aL K1,(aY J1).2,(aY K1).2];exact ir
  ·rw[cH Ub]at vM;simp only[↓aQ,aR,↓aT,aK,↓reduceIte,aa,ah,ae,Tryz.f114,ai,hl,g0,g1,vM,Oz,OA,hx,hy,hr,uK,xL,Zx,Zy,px1,px2,px,py,aL hm,aL kM,aL hn,aL yo,aL J1,aL K1,(aY J1).2,(aY K1).2];exact ir
theorem uk{v w:AV}{q p:Rat}(h:cX v q)(h':cX w p){k l:Nat}(b:Bq k q)(b':Bq l p)(hk:k+l<=100000000000):∃r,aO E 111 [v,w]=some r/\cX r (q-p):=by obtain⟨x,hx,ix⟩:=ru (E:=E) h';obtain⟨r,hr,ir⟩:=lI (E:=E) h ix b b'.neg hk;rw[<-aUe]at ir;have px:=jm ix;obtain⟨na,ma,nb,mb,l1,l1',rfl,h1,hm,kM,-⟩:=bR h;obtain⟨nc,mc,nd,md,l2,l2',rfl,h2,hn,yo,-⟩:=bR h';obtain⟨n3,m3,n4,m4,l3,l3',rfl,-,J1,K1,-⟩:=bR ir;refine tS amM ?_;intro ts hl g0 g1;unfold alD;simp only[↓aQ,aR,↓aT,aK,↓reduceIte,aa,ah,ae,Tryz.f111,hl,g0,g1,hx,hr,px,aL hm,aL kM,aL hn,aL yo,aL J1,aL K1,(aY J1).2,(aY K1).2];exact ir
theorem Bq.sub{k l:Nat}{q p:Rat}(h:Bq k q)(h':Bq l p):Bq (k+l+1) (q-p):=by rw[aUe];exact h.add h'.neg
theorem DV(q p:Rat):q/p=aTV (q.num*(p.den:Int)) ((q.den:Int)*p.num):=by rw[Rat.div_def,Rat.inv_def];rw[<-aUb,aTY]
theorem xU{v w:AV}{q p:Rat}(h:cX v q)(h':cX w p){k l:Nat}(b:Bq k q)(b':Bq l p)(hk:k+l<=100000000000)(hp:p≠0):∃r,aO E 64 [v,w]=some (.tuple [r,.int .i64 0])/\cX r (q/p):=by
 suffices hh:∃u,aO E 64 [v,w]=some u/\∃r,u=.tuple [r,.int .i64 0]/\cX r (q/p)by
  obtain⟨u,h1,r,rfl,h2⟩:=hh;exact⟨r,h1,h2⟩
 have hpn:p.num≠0:=fun e=>hp (Rat.num_eq_zero.1 e)
 have tE:=jh (E:=E) h';have M4:(xd p.num==0)=false:=by
  unfold xd;rw[if_neg hpn]
  split<;>rfl
 obtain⟨d1,uK,Uf⟩:=mF (E:=E) h;obtain⟨d2,xL,Ug⟩:=mF (E:=E) h';obtain⟨na,ma,nb,mb,l1,l1',rfl,h1,hm,kM,-⟩:=bR h;obtain⟨nc,mc,nd,md,l2,l2',rfl,h2,hn,yo,-⟩:=bR h';obtain⟨x1,Oz,ix1⟩:=k7 C h1 Ug (eM b.1 (by omega)) (fF b'.2 (by omega));obtain⟨x2,OA,ix2⟩:=k7 C Uf h2 (fF b.2 (by omega)) (eM b'.1 (by omega));have dM:(q.den:Int)*p.num≠0:=Int.mul_ne_zero (by have:=q.den_nz;omega) hpn;have b2:=ph b'.1 b.2;rw[Int.mul_comm,aS8]at b2;obtain⟨r,hr,ir⟩:=qS (E:=E) ix1 ix2 (eM (ph b.1 b'.2) (by omega)) (eM b2 (by omega)) dM;rw[<-DV]at ir;have Zx:=dz Uf;have Zy:=dz Ug;have px1:=dz ix1;have px2:=dz ix2;obtain⟨n3,m3,n4,m4,l3,l3',rfl,-,J1,K1,-⟩:=bR ir;refine tS avA ?_;intro ts hl g0 g1;unfold c64;simp only[↓aQ,aR,↓aT,aK,↓reduceIte,aa,ah,ae,Tryz.f64,ai,hl,g0,g1,tE,M4,Oz,OA,hr,uK,xL,Zx,Zy,px1,px2,aL hm,aL kM,aL hn,aL yo,aL J1,aL K1,(aY J1).2,(aY K1).2];exact⟨_,rfl,ir⟩
theorem Bq.div{k l:Nat}{q p:Rat}(h:Bq k q)(h':Bq l p)(hp:p≠0):Bq (k+l) (q/p):=by
 rw[DV];have hpn:p.num≠0:=fun e=>hp (Rat.num_eq_zero.1 e)
 refine Bq.divInt (Int.mul_ne_zero (by have:=q.den_nz;omega) hpn) (ph h.1 h'.2) ?_;rw[Int.mul_comm,aS8];exact ph h'.1 h.2
def uG(q p:Rat):Int:=if q<p then-1 else if p<q then 1 else 0
theorem GF(q p:Rat):pP (q.num*(p.den:Int)) (p.num*(q.den:Int))=uG q p:=by unfold pP uG;simp only[Rat.lt_iff]
theorem tp{v w:AV}{q p:Rat}(h:cX v q)(h':cX w p){k l:Nat}(b:Bq k q)(b':Bq l p)(hk:k+l<=100000000000):aO E 102 [v,w]=some (.int .i64 (uG q p)):=by
 refine ep ?_;have vM:=nf (E:=E) h b (by omega);have wN:=nf (E:=E) h' b' (by omega);obtain⟨d1,uK,Uf⟩:=mF (E:=E) h;obtain⟨d2,xL,Ug⟩:=mF (E:=E) h';obtain⟨na,ma,nb,mb,l1,l1',rfl,h1,hm,kM,-⟩:=bR h;obtain⟨nc,mc,nd,md,l2,l2',rfl,h2,hn,yo,-⟩:=bR h';obtain⟨x1,Oz,ix1⟩:=k7 C h1 Ug (eM b.1 (by omega)) (fF b'.2 (by omega));obtain⟨x2,OA,ix2⟩:=k7 C h2 Uf (eM b'.1 (by omega)) (fF b.2 (by omega));have G0:=kj C h1 h2 (eM b.1 (by omega)) (eM b'.1 (by omega));have JZ:=kj C ix1 ix2 (eM (ph b.1 b'.2) (by omega)) (eM (ph b'.1 b.2) (by omega));rw[GF]at JZ;have Zx:=dz Uf;have Zy:=dz Ug;have px1:=dz ix1;have px2:=dz ix2;refine tS amF ?_;intro ts hl g0 g1;unfold alw;by_cases Ub:q.den=1
 ·rw[cF Ub]at vM;by_cases Wv:p.den=1
  ·rw[cF Wv]at wN;simp only[↓aQ,aR,↓aT,aK,↓reduceIte,aa,ah,ae,Tryz.f102,ai,hl,g0,g1,vM,wN,G0,aL hm,aL kM,aL hn,aL yo];rw[<-GF,Ub,Wv];simp only[Int.cast_ofNat_Int,Int.mul_one]
  ·rw[cH Wv]at wN;simp only[↓aQ,aR,↓aT,aK,↓reduceIte,aa,ah,ae,Tryz.f102,ai,hl,g0,g1,vM,wN,JZ,Oz,OA,uK,xL,Zx,Zy,px1,px2,aL hm,aL kM,aL hn,aL yo]
 ·rw[cH Ub]at vM;simp only[↓aQ,aR,↓aT,aK,↓reduceIte,aa,ah,ae,Tryz.f102,ai,hl,g0,g1,vM,JZ,Oz,OA,uK,xL,Zx,Zy,px1,px2,aL hm,aL kM,aL hn,aL yo]
def v8(s:List UInt8):List UInt8:=s.takeWhile (fun b=>!(b==47))
def n9(s:List UInt8):List UInt8:=(s.dropWhile (fun b=>!(b==47))).drop 1
def wa(s:List UInt8):Bool:=s.any (fun b=>b==47)
theorem QN:∀(s:List UInt8),(Lib.indexByte s 47= -1/\v8 s=s/\n9 s=[]/\wa s=false)∨(∃o:Nat,Lib.indexByte s 47=(o:Int)/\o<s.length/\v8 s=s.take o/\n9 s=s.drop (o+1)/\wa s=true)
 |[]=>.inl ⟨rfl,rfl,rfl,rfl⟩
 |b::s=>by
  by_cases hb:(b==47)=true
  ·refine .inr ⟨0,?_,by simp,?_,?_,?_⟩
   ·rw[Lib.indexByte,if_pos hb];rfl
   ·simp[v8,hb]
   ·simp[n9,hb]
   ·simp[wa,hb]
  ·have ux:(b==47)=false:=by simpa using hb
   rcases QN s with⟨h1,h2,h3,h4⟩|⟨o,h1,h2,h3,h4,h5⟩
   ·refine .inl ⟨?_,?_,?_,?_⟩
    ·rw[Lib.indexByte,if_neg hb,h1];rfl
    ·unfold v8 at h2⊢;rw[aUd,if_pos (by rw[ux];rfl),h2]
    ·unfold n9 at h3⊢;rw[aT0,if_pos (by rw[ux];rfl),h3]
    ·unfold wa at h4⊢;rw[List.any_cons,ux,h4];rfl
   ·refine .inr ⟨o+1,?_,by simp only[List.length_cons];omega,?_,?_,?_⟩
    ·rw[Lib.indexByte,if_neg hb,h1,if_neg (by simp only[beq_iff_eq];omega)];simp
    ·unfold v8 at h3⊢;rw[aUd,if_pos (by rw[ux];rfl),h3,List.take_succ_cons]
    ·unfold n9 at h4⊢;rw[aT0,if_pos (by rw[ux];rfl),h4,List.drop_succ_cons]
    ·unfold wa at h5⊢;rw[List.any_cons,h5,Bool.or_true]
theorem WO{s:List UInt8}:aO E 238 [.str s,.int .u8 47]=some (.int .i64 (Lib.indexByte s 47)):=by refine pE ?_ apZ;rw[C.SX _ _ (by decide)];rw[show ij yh 238 [.str s,.int .u8 47]=Q3 [.str s,.int .u8 47]by simp[ij,yh]];rfl
theorem Su{s:List UInt8}:aO E 212 [.str s,.int .u8 47]=some (.int .i64 (Lib.indexByte s 47)):=by refine ep ?_;have h1:=WO (E:=E) (s:=s);refine tS anl ?_;intro ts hl g0 g1;unfold al2;simp only[↓aQ,aR,↓aT,aK,aa,ae,Tryz.f212,hl,g0,g1,h1]
theorem Ml:(((47:UInt8).toNat:Nat):Int)=47:=by decide
theorem OF{s:List UInt8}:aO E 183 [.str s,.str [47]]=some (.int .i64 (Lib.indexByte s 47)):=by
 refine ep ?_;have h1:=Su (E:=E) (s:=s);have FF:qm E 9 (.str [47]) (.int .i64 0)=some (.int .u8 47):=by
  have:=WN (E:=E) (t:=9) (s:=[47]) (i:=0) (c:=47) st9 rfl (k:=.i64)
  rw[Ml]at this;exact this
 have AA:((([47]:List UInt8).length:Int))=1:=rfl;refine tS ang ?_;intro ts hl g0 g1;unfold alY;by_cases hs:s=[47]
 ·have he:(([47]:List UInt8)==s)=true:=by rw[hs];rfl
  simp only[↓aQ,aR,aK,aa,ae,Tryz.f183,aB,aD,hl,g0,g1,lD,he];rw[hs];rfl
 ·have he:(([47]:List UInt8)==s)=false:=by rw[beq_eq_false_iff_ne];exact fun e=>hs e.symm
  simp only[↓aQ,aR,↓aT,aK,aa,ae,Tryz.f183,aB,aD,hl,g0,g1,lD,he,h1,FF]
theorem RP{s:List UInt8}(hs:s.length<=4611686018427387904):aO E 147 [.str s,.str [47]]=some (.tuple [.str (v8 s),.str (n9 s),.bool (wa s)]):=by
 refine ep ?_;have h1:=OF (E:=E) (s:=s);refine tS am6 ?_;intro ts hl g0 g1;unfold alQ;rcases QN s with⟨e1,e2,e3,e4⟩|⟨o,e1,e2,e3,e4,e5⟩
 ·rw[e1]at h1;rw[e2,e3,e4];simp only[↓aQ,aR,↓aT,aK,aa,ae,Tryz.f147,au,aB,hl,g0,g1,h1]
 ·rw[e1]at h1;rw[e3,e4,e5];have dc:decide ((o:Int)≥0)=true:=cF (by omega);have w1:aV .i64 ((o:Int)+1)=((o+1:Nat):Int):=by rw[wrap_i64 (by omega) (by omega)];omega
  have b1:=Qe (n:=s.length) (k:=o) (i:=.i64) (by omega);have b2:=Ix (n:=s.length) (k:=o+1) (i:=.i64) (by omega);have ht:List.take (s.length-(o+1)) (s.drop (o+1))=s.drop (o+1):=List.take_of_length_le (by simp);simp only[↓aQ,aR,↓aT,aK,aa,ah,ae,Tryz.f147,hl,g0,g1,h1,w1,b1,b2,ht,Nat.sub_zero]
theorem U8{s:List UInt8}(hs:s.length<=4611686018427387904):aO E 115 [.str s,.str [47]]=some (.tuple [.str (v8 s),.str (n9 s),.bool (wa s)]):=by refine ep ?_;have h1:=RP (E:=E) hs;refine tS amO ?_;intro ts hl g0 g1;unfold alF;simp only[↓aQ,aR,↓aT,aK,aa,ae,Tryz.f115,hl,g0,g1,h1]
def Vi:List UInt8:=[48,49,50,51,52,53,54,55,56,57]
theorem DU{b:UInt8}:Vi.contains b=kP b:=by
 have h:∀n:Fin 256,Vi.contains (UInt8.ofNat n.val)=kP (UInt8.ofNat n.val):=by decide+kernel
 have:=h ⟨b.toNat,b.toNat_lt⟩
 rwa[UInt8.ofNat_toNat]at this
theorem wb{p:UInt8->Bool}:∀{l:List UInt8},l.dropWhile p=[]↔∀b∈l,p b=true
 |[]=>by simp
 |b::l=>by
  rw[aT0];by_cases h:p b=true
  ·rw[if_pos h,wb];simp[h]
  ·rw[if_neg h];simp[h]
theorem wS{p:UInt8->Bool}{b:UInt8}:∀{l:List UInt8},b∈l.dropWhile p->b∈l
 |[],h=>by simp at h
 |c::l,h=>by
  rw[aT0]at h;by_cases hc:p c=true
  ·rw[if_pos hc]at h;exact List.mem_cons_of_mem _ (wS h)
  ·rw[if_neg hc]at h;exact h
theorem x5{s cs:List UInt8}:(Lib.trimS s cs=[])↔∀b∈s,cs.contains b=true:=by
 unfold Lib.trimS Lib.trimLeftS Lib.trimRightS;rw[wb];constructor
 ·intro h b hb;have h1:s.reverse=s.reverse.takeWhile (cs.contains ·)++s.reverse.dropWhile (cs.contains ·):=(List.takeWhile_append_dropWhile).symm;have h2:b∈s.reverse:=aT4.2 hb;rw[h1]at h2;rcases List.mem_append.1 h2 with h3|h3
  ·exact aMa.1 (List.all_takeWhile (l:=s.reverse) (p:=(cs.contains ·))) b h3
  ·exact h b (aT4.2 h3)
 ·intro h b hb;have h1:=aT4.1 hb;exact h b (aT4.1 (wS h1))
theorem TD{s:List UInt8}:(Lib.trimS s Vi==[])=s.all kP:=by
 by_cases h:∀b∈s,kP b=true
 ·rw[aMa.2 h,beq_iff_eq,x5];intro b hb;rw[DU];exact h b hb
 ·have h1:s.all kP=false:=by
   rw[aUg];exact fun e=>h (aMa.1 e)
  rw[h1,beq_eq_false_iff_ne];intro e;refine h fun b hb=>?_
  rw[<-DU];exact x5.1 e b hb
theorem arV{s:List UInt8}:(Lib.trimS s [48]==[])=s.all (·==48):=by
 by_cases h:∀b∈s,(b==48)=true
 ·rw[aMa.2 h,beq_iff_eq,x5];intro b hb
  have:=h b hb
  simpa using this
 ·have h1:s.all (·==48)=false:=by
   rw[aUg];exact fun e=>h (aMa.1 e)
  rw[h1,beq_eq_false_iff_ne];intro e;refine h fun b hb=>?_
  have:=x5.1 e b hb
  simpa using this
def QY(s:List UInt8):Bool:=!(s==[])&&s.all kP
theorem BQ{s:List UInt8}(hs:s.length<=4611686018427387904):aO E 116 [.str s]=some (.bool (QY s)):=by
 refine ep ?_;have h1:=yy (E:=E) (s:=s) (c:=Vi) (by decide) (by decide) (by omega);have h2:=TD (s:=s);unfold Vi at h1;refine mO amP ?_;intro ts hl g0;unfold alG QY;by_cases he:s=[]
 ·have e1:(s==([]:List UInt8))=true:=by rw[he];rfl
  rw[e1];simp only[↓aQ,aR,aa,ae,Tryz.f116,hl,g0,C2,e1]
 ·have e1:(s==([]:List UInt8))=false:=beq_eq_false_iff_ne.2 he;rw[e1];simp only[↓aQ,aR,↓aT,aK,aa,ae,Tryz.f116,hl,g0,lD,C2,e1,h1];rw[<-h2];rfl
def Fj(s:List UInt8):Bool:=Lib.hasPrefix (v8 s) [45]
def sI(s:List UInt8):List UInt8:=Lib.trimPrefix (v8 s) [45]
def wW(s:List UInt8):Int:=if Fj s=true then-(dv 0 (sI s):Int)else dv 0 (sI s)
def uT(s:List UInt8):Nat:=dv 0 (n9 s)
def gY(s:List UInt8):Rat:=if wa s=true then aTV (wW s) (uT s)else(wW s:Rat)
def dY(L:Int)(s:List UInt8):Int:=
 if(s.length:Int)>L then 5 else
 if QY (sI s)=false∨(wa s=true/\QY (n9 s)=false)then 14 else
 if wa s=true/\(n9 s).all (·==48)=true then 19 else
 if sF (Fj s) (sI s)=true then 3 else
 if wa s=false then 0 else
 if sF false (n9 s)=true∨uT s=1∨aTW (wW s) (uT s)≠1 then 3 else 0
theorem ajX(n:Nat):10^n<=2^(4*n):=by rw[Nat.pow_mul];exact Nat.pow_le_pow_left (by decide) _
theorem Qq{l:List UInt8}(h:∀b∈l,kP b=true){n:Nat}(hn:l.length<=n):dv 0 l<2^(4*n):=
 aNU (Qs h) (aNR (ajX _) (aRX (by omega) (by omega)))
theorem Vn:∀{l:List UInt8},(∀b∈l,kP b=true)->l.all (·==48)=false->0<dv 0 l
 |[],_,h=>by simp at h
 |c::r,hd,h=>by
  rw[uI,DY,Nat.zero_mul,Nat.zero_add];have h1:=hd c (by simp);simp only[kP,decide_eq_true_eq]at h1;by_cases hc:c.toNat=48
  ·have hc':c=48:=UInt8.toNat_inj.1 (by rw[hc];decide);rw[List.all_cons,hc',show((48:UInt8)==48)=true by decide,Bool.true_and]at h
   have:=Vn (l:=r) (fun b hb=>hd b (by simp[hb])) h
   omega
  ·have h2:0<c.toNat-48:=by omega
   have:=aUk h2 (Nat.pow_pos (n:=r.length) (show 0<10 by omega))
   omega
theorem Kz(s:List UInt8):(v8 s).length<=s.length:=(List.takeWhile_sublist _).length_le
theorem U7(s:List UInt8):(n9 s).length<=s.length:=aNR (List.drop_sublist _ _).length_le (List.dropWhile_sublist _).length_le
theorem XA(s:List UInt8):(sI s).length<=s.length:=by
 refine aNR ?_ (Kz s);unfold sI Lib.trimPrefix
 split<;>simp
theorem QZ{s:List UInt8}(h:QY s=true):(∀b∈s,kP b=true)/\s≠[]:=by unfold QY at h;rw[Bool.and_eq_true]at h;refine⟨aMa.1 h.2,?_⟩;intro e;subst e;simp at h
theorem Hm{s:List UInt8}(h:∀b∈s,kP b=true):Lib.hasPrefix s [45]=false/\Lib.trimPrefix s [45]=s:=by
 have h1:Lib.hasPrefix s [45]=false:=by
  cases s with
  |nil=>rfl
  |cons b r=>
   have h2:=h b (by simp);have h3:(45==b)=false:=by
    rw[beq_eq_false_iff_ne];rintro rfl
    revert h2
    decide
   simp[Lib.hasPrefix,List.isPrefixOf,h3]
 exact⟨h1,by unfold Lib.trimPrefix;rw[h1];simp⟩
theorem Ta{s:List UInt8}{L:Int}(hs:s.length<=4611686018427387904)(hL:L<=65536):∃r,aO E 76 [.str s,.int .i64 L]=some (.tuple [r,.int .i64 (dY L s)])/\cX r (if dY L s=0 then gY s else 0):=by
 suffices hh:∃u,aO E 76 [.str s,.int .i64 L]=some u/\∃r,u=.tuple [r,.int .i64 (dY L s)]/\cX r (if dY L s=0 then gY s else 0)by
  obtain⟨u,h1,r,rfl,h2⟩:=hh;exact⟨r,h1,h2⟩
 have A8:=U8 (E:=E) hs;have F6:=CT (E:=E) (s:=v8 s) (c:=[45]);have la:=Kz s;have lb:=U7 s;have ld:=XA s;have uK:=BQ (E:=E) (s:=sI s) (by omega);have xL:=BQ (E:=E) (s:=n9 s) (by omega);have htz:=yy (E:=E) (s:=n9 s) (c:=[48]) (by decide) (by decide) (by omega);have AD:=arV (s:=n9 s);rw[show Lib.trimPrefix (v8 s) [45]=sI s from rfl]at F6;refine tS avK ?_;intro ts hl g0 g1;unfold c76;by_cases hlen:(s.length:Int)>L
 ·have dl:decide ((s.length:Int)>L)=true:=cF hlen;have hc:dY L s=5:=by unfold dY;rw[if_pos hlen]
  rw[hc];simp only[↓aQ,aR,↓aT,aK,↓reduceIte,aa,ah,ae,Tryz.f76,aF,hl,g0,g1,A8,dl];exact⟨_,rfl,qC⟩
 have dl:decide ((s.length:Int)>L)=false:=cH hlen;have hf5:∀x,dY L s=x↔(if QY (sI s)=false∨(wa s=true/\QY (n9 s)=false)then 14 else
  if wa s=true/\(n9 s).all (·==48)=true then 19 else
  if sF (Fj s) (sI s)=true then 3 else
  if wa s=false then 0 else
  if sF false (n9 s)=true∨uT s=1∨aTW (wW s) (uT s)≠1 then 3 else 0)=x:=by
  intro x;unfold dY;rw[if_neg hlen]
 by_cases ha:QY (sI s)=false
 ·have hc:dY L s=14:=by rw[hf5,if_pos (.inl ha)]
  rw[hc];rw[ha]at uK;simp only[↓aQ,aR,↓aT,aK,↓reduceIte,aa,ah,ae,Tryz.f76,aF,hl,g0,g1,A8,dl,F6,uK];exact⟨_,rfl,qC⟩
 have TZ:QY (sI s)=true:=by simpa using ha
 rw[TZ]at uK;obtain⟨dda,nea⟩:=QZ TZ;obtain⟨ra,ca,hpa,pa1,pa2⟩:=E9 (E:=E) (s:=v8 s) (by omega) dda nea;rw[show Lib.trimPrefix (v8 s) [45]=sI s from rfl,show Lib.hasPrefix (v8 s) [45]=Fj s from rfl]at pa1 pa2;have bn:(wW s).natAbs<2^(4*s.length):=by
  have:=Qq dda ld
  unfold wW
  split<;>omega
 cases hF:wa s with
 |false=>
  rw[hF]at A8;cases hb:sF (Fj s) (sI s)with
  |true=>
   obtain⟨rfl,rfl⟩:=pa1 hb;have hc:dY L s=3:=by rw[hf5,if_neg (by rw[TZ,hF];simp),if_neg (by rw[hF];simp),if_pos hb]
   rw[hc];simp only[↓aQ,aR,↓aT,aK,↓reduceIte,aa,ah,ae,Tryz.f76,aE,aF,hl,g0,g1,A8,dl,F6,uK,hpa];exact⟨_,rfl,qC⟩
  |false=>
   obtain⟨rfl,ia⟩:=pa2 hb;rw[show(if Fj s=true then-(dv 0 (sI s):Int)else dv 0 (sI s))=wW s from rfl]at ia;obtain⟨n1,m1,l1,rfl,xN,-,-,-⟩:=id ia;have hc:dY L s=0:=by rw[hf5,if_neg (by rw[TZ,hF];simp),if_neg (by rw[hF];simp),if_neg (by rw[hb];simp),if_pos hF]
   have hv:gY s=(wW s:Rat):=by unfold gY;rw[hF];rfl
   rw[hc,if_pos rfl,hv];simp only[↓aQ,aR,↓aT,aK,↓reduceIte,aa,ah,ae,Tryz.f76,ai,aE,hl,g0,g1,A8,dl,F6,uK,hpa,aL xN,(aY xN).2];exact⟨_,rfl,Ai ia⟩
 |true=>
  rw[hF]at A8;by_cases hB:QY (n9 s)=false
  ·have hc:dY L s=14:=by rw[hf5,if_pos (.inr ⟨hF,hB⟩)]
   rw[hc];rw[hB]at xL;simp only[↓aQ,aR,↓aT,aK,↓reduceIte,aa,ah,ae,Tryz.f76,aF,hl,g0,g1,A8,dl,F6,uK,xL];exact⟨_,rfl,qC⟩
  have hB':QY (n9 s)=true:=by simpa using hB
  rw[hB']at xL;obtain⟨ddb,neb⟩:=QZ hB';cases hz:(n9 s).all (·==48)with
  |true=>
   have hc:dY L s=19:=by rw[hf5,if_neg (by rw[TZ,hB'];simp),if_pos ⟨hF,hz⟩]
   rw[hc];rw[hz]at AD;simp only[↓aQ,aR,↓aT,aK,↓reduceIte,aa,ah,ae,Tryz.f76,aF,hl,g0,g1,A8,dl,F6,uK,xL,htz,lD,AD];exact⟨_,rfl,qC⟩
  |false=>
  rw[hz]at AD;cases hb:sF (Fj s) (sI s)with
  |true=>
   obtain⟨rfl,rfl⟩:=pa1 hb;have hc:dY L s=3:=by rw[hf5,if_neg (by rw[TZ,hB'];simp),if_neg (by rw[hz];simp),if_pos hb]
   rw[hc];simp only[↓aQ,aR,↓aT,aK,↓reduceIte,aa,ah,ae,Tryz.f76,aE,aF,hl,g0,g1,A8,dl,F6,uK,xL,htz,lD,AD,hpa];exact⟨_,rfl,qC⟩
  |false=>
  obtain⟨rfl,ia⟩:=pa2 hb;rw[show(if Fj s=true then-(dv 0 (sI s):Int)else dv 0 (sI s))=wW s from rfl]at ia;obtain⟨np1,np2⟩:=Hm ddb;obtain⟨rb,cb,hpb,pb1,pb2⟩:=E9 (E:=E) (s:=n9 s) (by omega) (by rw[np2];exact ddb) (by rw[np2];exact neb);rw[np1,np2]at pb1 pb2;have bd:uT s<2^(4*s.length):=Qq ddb lb;have JY:∀x,dY L s=x↔(if sF false (n9 s)=true∨uT s=1∨aTW (wW s) (uT s)≠1 then(3:Int)else 0)=x:=by
   intro x;rw[hf5,if_neg (by rw[TZ,hB'];simp),if_neg (by rw[hz];simp),if_neg (by rw[hb];simp),if_neg (by rw[hF];simp)]
  obtain⟨n1,m1,l1,rfl,xN,-,-,-⟩:=id ia;cases hbb:sF false (n9 s)with
  |true=>
   obtain⟨rfl,rfl⟩:=pb1 hbb;have hc:dY L s=3:=by rw[JY,if_pos (.inl hbb)]
   rw[hc];simp only[↓aQ,aR,↓aT,aK,↓reduceIte,aa,ah,ae,Tryz.f76,aE,aF,hl,g0,g1,A8,dl,F6,uK,xL,htz,lD,AD,hpa,hpb,(aY xN).2];exact⟨_,rfl,qC⟩
  |false=>
  obtain⟨rfl,ib⟩:=pb2 hbb;rw[show(if false=true then-(dv 0 (n9 s):Int)else dv 0 (n9 s))=(uT s:Int)from rfl]at ib;obtain⟨o,K3,oi⟩:=wU (E:=E);have f1:Fit 1:=⟨1,by omega,by decide⟩;have QH:=Vn ddb hz;rw[show dv 0 (n9 s)=uT s from rfl]at QH;have fb:Fit (uT s:Int):=fF bd (by omega);have fa:Fit (wW s):=eM bn (by omega);have G0:=kj C ib oi fb f1;obtain⟨g,hg,ig⟩:=tR (E:=E) ia ib fa fb;have hgp:0<aTW (wW s) (uT s):=aUa.2 (.inr (by omega));have fg:Fit ((aTW (wW s) (uT s):Nat):Int):=fF (aR2 (aUc QH (by have:=aT1 (wW s) (uT s);rwa[aTX]at this)) bd) (by omega);have JZ:=kj C ig oi fg f1;have po:=dz oi;have pg:=dz ig;obtain⟨n2,m2,l2,rfl,FG,-,-,-⟩:=id ib;by_cases hd:uT s=1
  ·have hc:dY L s=3:=by rw[JY,if_pos (.inr (.inl hd))]
   rw[hc];rw[hd,show((1:Nat):Int)=1 from rfl,vZ]at G0;simp only[↓aQ,aR,↓aT,aK,↓reduceIte,aa,ah,ae,Tryz.f76,aE,aF,hl,g0,g1,A8,dl,F6,uK,xL,htz,lD,AD,hpa,hpb,(aY xN).2,aL FG,(aY FG).2,K3,po,G0];exact⟨_,rfl,qC⟩
  rw[zx (by omega)]at G0;by_cases C9:aTW (wW s) (uT s)=1
  ·have hc:dY L s=0:=by rw[JY,if_neg (by rw[hbb];simp[hd,C9])]
   rw[hc,if_pos rfl];rw[C9,show((1:Nat):Int)=1 from rfl,vZ]at JZ;have hq:cX (.agg [.bool n1,m1,.bool n2,m2]) (gY s):=by
    unfold gY;rw[hF,if_pos rfl];refine⟨n1,m1,n2,m2,_,rfl,?_,ib,.inl ?_⟩
    ·rw[aT5,aTZ (by omega),aUh,aT2,C9];simpa using ia
    ·rw[aT6,if_neg (by omega),aT2,C9]
     simp
   simp only[↓aQ,aR,↓aT,aK,↓reduceIte,aa,ah,ae,Tryz.f76,ai,aD,aE,hl,g0,g1,A8,dl,F6,uK,xL,htz,lD,AD,hpa,hpb,aL xN,(aY xN).2,aL FG,(aY FG).2,K3,po,pg,G0,hg,JZ];exact⟨_,rfl,hq⟩
  ·have hc:dY L s=3:=by rw[JY,if_pos (.inr (.inr C9))]
   rw[hc];rw[zx (by omega)]at JZ;simp only[↓aQ,aR,↓aT,aK,↓reduceIte,aa,ah,ae,Tryz.f76,aD,aE,aF,hl,g0,g1,A8,dl,F6,uK,xL,htz,lD,AD,hpa,hpb,aL xN,(aY xN).2,aL FG,(aY FG).2,K3,po,pg,G0,hg,JZ];exact⟨_,rfl,qC⟩
theorem AF:aV .i64 1=1:=by decide
theorem MP:aV .i64 2=2:=by decide
theorem Rt:aV .i64 3=3:=by decide
theorem wk4:aV .i64 4=4:=by decide
theorem wk5:aV .i64 5=5:=by decide
structure V3 where
 x:Rat
 y:Rat
 z:Rat
def fS(v:AV)(a:V3):Prop:=∃n0 m0 n1 m1 n2 m2 n3 m3 n4 m4 n5 m5,v=.agg [.bool n0,m0,.bool n1,m1,.bool n2,m2,.bool n3,m3,.bool n4,m4,.bool n5,m5]/\
 cX (.agg [.bool n0,m0,.bool n1,m1]) a.x/\cX (.agg [.bool n2,m2,.bool n3,m3]) a.y/\cX (.agg [.bool n4,m4,.bool n5,m5]) a.z
theorem aU{n m n' m'}(q:Rat)(h:cX (.agg [.bool n,m,.bool n',m']) q):aN m=true/\b7 m=true/\aN m'=true/\b7 m'=true:=by obtain⟨na,ma,nb,mb,l,l',e,-,h1,h2,-⟩:=bR h;simp only[AV.agg.injEq,List.cons.injEq,AV.bool.injEq,and_true]at e;obtain⟨-,rfl,-,rfl⟩:=e;exact⟨aL h1,(aY h1).2,aL h2,(aY h2).2⟩
theorem xE{f:Nat}(hf:cg E f=false){fc:List AV}(hfc:bE fc=true){v w:AV}{a b c:V3}(h:fS v a)(h':fS w b)
  (hx:∀x y,cX x a.x->cX y b.x->∃r,aO E f (x::y::fc)=some r/\cX r c.x)
  (hy:∀x y,cX x a.y->cX y b.y->∃r,aO E f (x::y::fc)=some r/\cX r c.y)
  (hz:∀x y,cX x a.z->cX y b.z->∃r,aO E f (x::y::fc)=some r/\cX r c.z):
  ∃r,aO E 73 [v,w,.func f [] fc]=some r/\fS r c:=by
 obtain⟨n0,m0,n1,m1,n2,m2,n3,m3,n4,m4,n5,m5,rfl,a1,a2,a3⟩:=h;obtain⟨p0,q0,p1,q1,p2,q2,p3,q3,p4,q4,p5,q5,rfl,b1,b2,b3⟩:=h';obtain⟨r1,c1,d1⟩:=hx _ _ a1 b1;obtain⟨r2,c2,d2⟩:=hy _ _ a2 b2;obtain⟨r3,c3,d3⟩:=hz _ _ a3 b3;obtain⟨i0,j0,i1,j1,-,-,rfl,-⟩:=bR d1;obtain⟨i2,j2,i3,j3,-,-,rfl,-⟩:=bR d2;obtain⟨i4,j4,i5,j5,-,-,rfl,-⟩:=bR d3;have A1:=aU _ a1;have A2:=aU _ a2;have A3:=aU _ a3;have B1:=aU _ b1;have B2:=aU _ b2;have B3:=aU _ b3;have D1:=aU _ d1;have D2:=aU _ d2;have D3:=aU _ d3;have wH:=fun{dr st:Bool} {bl:List AV} {H:Hp} {k:AV->cJ->Prop}=>lu (E:=E) (dr:=dr) (st:=st) (f:=f) (bl:=bl) (H:=H) (k:=k) hf
 refine Zj avI ?_;intro ts hl g0 g1 g2;unfold c73;simp only[↓aQ,aR,aK,ah,ae,Tryz.f73,g0,g1];refine gb 4 ?_;simp only[↓aQ,aR,aK,↓reduceIte,aa,ah,ak,ae,an,ao,aq,ai,aA,hl,g2,A1,A2,A3,B1,B2,B3,D1,D2,D3,wH,c1,c2,c3,hfc,AF,MP,Rt];exact⟨_,_,_,_,_,_,_,_,_,_,_,_,rfl,d1,d2,d3⟩
def BV(k:Nat)(a:V3):Prop:=Bq k a.x/\Bq k a.y/\Bq k a.z
theorem BV.mono{k l:Nat}{a:V3}(h:BV k a)(hl:k<=l):BV l a:=⟨h.1.mono hl,h.2.1.mono hl,h.2.2.mono hl⟩
def Av(a b:V3):V3:=⟨a.x+b.x,a.y+b.y,a.z+b.z⟩
def JV(a:V3):V3:=⟨0-a.x,0-a.y,0-a.z⟩
def eE(k:Rat)(a:V3):V3:=⟨k*a.x,k*a.y,k*a.z⟩
def azm(a b:V3):V3:=⟨a.x*b.x,a.y*b.y,a.z*b.z⟩
def qV(a b:V3):Rat:=0+a.x*b.x+a.y*b.y+a.z*b.z
def bX(a b:V3):V3:=⟨a.y*b.z-a.z*b.y,a.z*b.x-a.x*b.z,a.x*b.y-a.y*b.x⟩
def v0:V3:=⟨0,0,0⟩
def yj(a b:V3):Int:=if uG a.x b.x≠0 then uG a.x b.x else if uG a.y b.y≠0 then uG a.y b.y else uG a.z b.z
theorem yk:Bq 1 0:=by
 refine⟨?_,?_⟩<;>decide
theorem bv0:BV 1 v0:=⟨yk,yk,yk⟩
theorem CW:fS (.agg [.bool false,.aH,.bool false,.aH,.bool false,.aH,.bool false,.aH,.bool false,.aH,.bool false,.aH]) v0:=
 ⟨_,_,_,_,_,_,_,_,_,_,_,_,rfl,qC,qC,qC⟩
theorem cD{v:AV}{a:V3}(h:fS v a):∃n0 m0 n1 m1 n2 m2 n3 m3 n4 m4 n5 m5,v=.agg [.bool n0,m0,.bool n1,m1,.bool n2,m2,.bool n3,m3,.bool n4,m4,.bool n5,m5]/\
 cX (.agg [.bool n0,m0,.bool n1,m1]) a.x/\cX (.agg [.bool n2,m2,.bool n3,m3]) a.y/\cX (.agg [.bool n4,m4,.bool n5,m5]) a.z/\
 (aN m0=true/\aN m1=true/\aN m2=true/\aN m3=true/\aN m4=true/\aN m5=true)/\(b7 m0=true/\b7 m1=true/\b7 m2=true/\b7 m3=true/\b7 m4=true/\b7 m5=true):=by
 obtain⟨n0,m0,n1,m1,n2,m2,n3,m3,n4,m4,n5,m5,e,h1,h2,h3⟩:=h;have A:=aU _ h1;have B:=aU _ h2;have D:=aU _ h3;exact⟨n0,m0,n1,m1,n2,m2,n3,m3,n4,m4,n5,m5,e,h1,h2,h3,⟨A.1,A.2.2.1,B.1,B.2.2.1,D.1,D.2.2.1⟩,⟨A.2.1,A.2.2.2,B.2.1,B.2.2.2,D.2.1,D.2.2.2⟩⟩
theorem qe{v:AV}{a:V3}(h:fS v a):aN v=true:=by obtain⟨n0,m0,n1,m1,n2,m2,n3,m3,n4,m4,n5,m5,rfl,-,-,-,⟨P0,P1,P2,P3,P4,P5⟩,-⟩:=cD h;simp[aN,bE,P0,P1,P2,P3,P4,P5]
theorem HZ{v w:AV}{a b:V3}(h:fS v a)(h':fS w b){k l:Nat}(ba:BV k a)(bb:BV l b)(hk:k+l<=100000000000):∃r,aO E 85 [v,w]=some r/\fS r (Av a b):=by obtain⟨r,hr,ir⟩:=xE (E:=E) (f:=114) (fc:=[]) apK rfl h h' (c:=Av a b) (fun x y hx hy=>lI (E:=E) hx hy ba.1 bb.1 hk) (fun x y hx hy=>lI (E:=E) hx hy ba.2.1 bb.2.1 hk) (fun x y hx hy=>lI (E:=E) hx hy ba.2.2 bb.2.2 hk);obtain⟨n0,m0,n1,m1,n2,m2,n3,m3,n4,m4,n5,m5,rfl,-,-,-,P,O⟩:=cD h;obtain⟨p0,q0,p1,q1,p2,q2,p3,q3,p4,q4,p5,q5,rfl,-,-,-,P',O'⟩:=cD h';obtain⟨s0,t0,s1,t1,s2,t2,s3,t3,s4,t4,s5,t5,rfl,-,-,-,P2,O2⟩:=cD ir;refine tS avR ?_;intro ts hl g0 g1;unfold c85;simp only[↓aQ,aR,↓aT,aK,↓reduceIte,aa,ah,ae,Tryz.f85,hl,g0,g1,P,P',P2,O2,hr];exact ir
theorem Ig{v:AV}{a:V3}(h:fS v a){k:Nat}(ba:BV k a)(hk:k<=90000000000):∃r,aO E 69 [v]=some r/\fS r (JV a):=by obtain⟨r,hr,ir⟩:=xE (E:=E) (f:=111) (fc:=[]) apJ rfl CW h (c:=JV a) (fun x y hx hy=>uk (E:=E) hx hy yk ba.1 (by omega)) (fun x y hx hy=>uk (E:=E) hx hy yk ba.2.1 (by omega)) (fun x y hx hy=>uk (E:=E) hx hy yk ba.2.2 (by omega));obtain⟨n0,m0,n1,m1,n2,m2,n3,m3,n4,m4,n5,m5,rfl,-,-,-,P,O⟩:=cD h;obtain⟨s0,t0,s1,t1,s2,t2,s3,t3,s4,t4,s5,t5,rfl,-,-,-,P2,O2⟩:=cD ir;refine mO avF ?_;intro ts hl g0;unfold c69;simp only[↓aQ,aR,↓aT,aK,↓reduceIte,aa,ah,ae,Tryz.f69,hl,g0,P,P2,O2,hr];exact ir
theorem Ts{n0 m0 n1 m1 n2 m2 n3 m3 n4 m4 n5 m5}{x y z:Rat}(hx:cX (.agg [.bool n0,m0,.bool n1,m1]) x)(hy:cX (.agg [.bool n2,m2,.bool n3,m3]) y)(hz:cX (.agg [.bool n4,m4,.bool n5,m5]) z){k:Nat}(bx:Bq k x)(RC:Bq k y)(bz:Bq k z)(hk:k<=20000000000):
  ∃r,aO E 74 [.aJ [.bool n0,m0,.bool n1,m1,.bool n2,m2,.bool n3,m3,.bool n4,m4,.bool n5,m5] 3]=some r/\cX r (0+x+y+z):=by
 obtain⟨r1,c1,d1⟩:=lI (E:=E) qC hx yk bx (by omega);have b1:=yk.add bx;obtain⟨r2,c2,d2⟩:=lI (E:=E) d1 hy b1 RC (by omega);have b2:=b1.add RC;obtain⟨r3,c3,d3⟩:=lI (E:=E) d2 hz b2 bz (by omega);obtain⟨i0,j0,i1,j1,-,-,rfl,-⟩:=bR d1;obtain⟨i2,j2,i3,j3,-,-,rfl,-⟩:=bR d2;obtain⟨i4,j4,i5,j5,-,-,rfl,-⟩:=bR d3;have A1:=aU _ hx;have A2:=aU _ hy;have A3:=aU _ hz;have D1:=aU _ d1;have D2:=aU _ d2;have D3:=aU _ d3;refine mO avJ ?_;intro ts hl g0;unfold c74;simp only[↓aQ,aR,aK,aa,ae,Tryz.f74,hl,g0];refine gb 4 ?_;simp only[↓aQ,aR,↓aT,aK,↓reduceIte,aa,ah,ak,ae,an,ao,aq,ai,aA,hl,A1,A2,A3,D1,D2,D3,c1,c2,c3,AF,MP,Rt];exact d3
theorem LG{m:AV}{l:List Nat}(h:fG m l):Flat m:=by
 rcases h.2 with rfl|⟨-,rfl|rfl⟩<;>exact fun _ _=>rfl
theorem Ah{n m n' m'}(q:Rat)(h:cX (.agg [.bool n,m,.bool n',m']) q):Flat m/\Flat m':=by obtain⟨na,ma,nb,mb,l,l',e,-,h1,h2,-⟩:=bR h;simp only[AV.agg.injEq,List.cons.injEq,AV.bool.injEq,and_true]at e;obtain⟨-,rfl,-,rfl⟩:=e;exact⟨LG h1,LG h2⟩
theorem VB{b:Bool}:Flat (.bool b):=fun _ _=>rfl
theorem flat_agg{H:Hp}{n:Nat}{cs:List AV}(h:∀v∈cs,Flat v):fz H (n+2) (.agg cs)=some (.agg cs,[]):=by unfold fz;simp only;rw[fj h];simp only[aNj,gn,dH]
theorem VL{H:Hp}{n b f:Nat}{cs:List AV}{st:iH}(h:H[b]?=some (.cells st cs))(hd:st≠ .dead)(hf:∀v∈cs,Flat v):fz H (n+3) (.func f [] [.b6 b 0])=some (.func f [] [.eU cs 0],[b]):=by
 have h1:fz H (n+2) (.b6 b 0)=some (.eU cs 0,[b]):=by unfold fz;simp only[h];rw[if_neg hd,fj hf];simp only[aNj,gn,dH]
 unfold fz;simp only;unfold dh;rw[h1];unfold dh;rfl
theorem aaJ{H:Hp}{b f:Nat}{l1 l2 cs:List AV}{st:iH}(f1:∀v∈l1,Flat v)(f2:∀v∈l2,Flat v)(h:H[b]?=some (.cells st cs))(hd:st≠ .dead)(hf:∀v∈cs,Flat v):oG false H [.agg l1,.agg l2,.func f [] [.b6 b 0]]=some ([.agg l1,.agg l2,.func f [] [.eU cs 0]],[b]):=by rw[kV];unfold bW;rw[show bE [AV.agg l1,.agg l2,.func f [] [.b6 b 0]]=false by simp[bE,aN]];simp only[Bool.false_eq_true,if_false];unfold dh;rw[flat_agg f1];unfold dh;rw[flat_agg f2];unfold dh;rw[VL h hd hf];unfold dh;rfl
theorem sw{n0 m0 n1 m1 n2 m2 n3 m3 n4 m4 n5 m5}{a:V3}(h:fS (.agg [.bool n0,m0,.bool n1,m1,.bool n2,m2,.bool n3,m3,.bool n4,m4,.bool n5,m5]) a):∀v∈[.bool n0,m0,.bool n1,m1,.bool n2,m2,.bool n3,m3,.bool n4,m4,.bool n5,m5],Flat v:=by
 obtain⟨p0,q0,p1,q1,p2,q2,p3,q3,p4,q4,p5,q5,e,h1,h2,h3⟩:=h;simp only[AV.agg.injEq,List.cons.injEq,AV.bool.injEq,and_true]at e;obtain⟨rfl,rfl,rfl,rfl,rfl,rfl,rfl,rfl,rfl,rfl,rfl,rfl⟩:=e;have A:=Ah _ h1;have B:=Ah _ h2;have D:=Ah _ h3;intro v hv;simp only[List.mem_cons,aUn,or_false]at hv;rcases hv with rfl|rfl|rfl|rfl|rfl|rfl|rfl|rfl|rfl|rfl|rfl|rfl<;>first|exact VB|exact A.1|exact A.2|exact B.1|exact B.2|exact D.1|exact D.2
theorem rn{n0 m0 n1 m1}{q:Rat}(h:cX (.agg [.bool n0,m0,.bool n1,m1]) q):∀v∈[.bool n0,m0,.bool n1,m1],Flat v:=by
 have A:=Ah _ h;intro v hv;simp only[List.mem_cons,aUn,or_false]at hv;rcases hv with rfl|rfl|rfl|rfl<;>first|exact VB|exact A.1|exact A.2
theorem xc{v w:AV}{k0 k1 k2 k3:AV}{q p:Rat}(h:cX v q)(hk:cX (.agg [k0,k1,k2,k3]) p){k l:Nat}(bq:Bq k q)(bp:Bq l p)(hb:k+l<=100000000000):∃r,aO E 110 [v,w,.eU [k0,k1,k2,k3] 0]=some r/\cX r (p*q):=by obtain⟨r,hr,ir⟩:=gv (E:=E) hk h bp bq (by omega);obtain⟨n0,m0,n1,m1,_,_,rfl,-,-,-,-⟩:=bR h;obtain⟨i0,j0,i1,j1,_,_,e,-,-,-,-⟩:=bR hk;simp only[AV.agg.injEq,List.cons.injEq,and_true]at e;obtain⟨rfl,rfl,rfl,rfl⟩:=e;obtain⟨s0,t0,s1,t1,_,_,rfl,-,-,-,-⟩:=bR ir;have A:=aU _ h;have B:=aU _ hk;have D:=aU _ ir;have hp:iR true 4 [AV.bool i0,k1,.bool i1,k3] 0=some (.agg [.bool i0,k1,.bool i1,k3]):=rfl;refine Zj amL ?_;intro ts hl g0 g1 g2;unfold alC;simp only[↓aQ,aR,↓aT,aK,↓reduceIte,aa,ah,ae,Tryz.f110,hl,g0,g1,g2,hp,hr,A,B,D];exact ir
theorem nJ{v w:AV}{a:V3}{p:Rat}(h:fS v a)(hk:cX w p){k l:Nat}(ba:BV k a)(bp:Bq l p)(hb:k+l<=100000000000):∃r,aO E 65 [v,w]=some r/\fS r (eE p a):=by
 obtain⟨n0,m0,n1,m1,n2,m2,n3,m3,n4,m4,n5,m5,rfl,-,-,-,P,O⟩:=cD h;obtain⟨i0,j0,i1,j1,_,_,rfl,-,-,-,-⟩:=bR hk;have B:=aU _ hk;obtain⟨r,hr,ir⟩:=xE (E:=E) (f:=110) (fc:=[.eU [.bool i0,j0,.bool i1,j1] 0]) (cn C (by kernel_rfl)) (by simp[bE,aN]) h h (c:=eE p a) (fun x y hx hy=>xc (E:=E) hx hk ba.1 bp hb) (fun x y hx hy=>xc (E:=E) hx hk ba.2.1 bp hb) (fun x y hx hy=>xc (E:=E) hx hk ba.2.2 bp hb);obtain⟨s0,t0,s1,t1,s2,t2,s3,t3,s4,t4,s5,t5,rfl,-,-,-,P2,O2⟩:=cD ir;have gf:=aaJ (f:=110) (b:=1) (H:=[.cells .live [.bool n0,m0,.bool n1,m1,.bool n2,m2,.bool n3,m3,.bool n4,m4,.bool n5,m5],.cells .live [.bool i0,j0,.bool i1,j1],.cells .live [.bool false,.aH,.bool false,.aH,.bool false,.aH,.bool false,.aH,.bool false,.aH,.bool false,.aH]]) (sw h) (sw h) (st:=.live) rfl (by decide) (rn hk);refine tS avB ?_;intro ts hl g0 g1;unfold c65;cases zO:bJ (.agg [.bool s0,t0,.bool s1,t1,.bool s2,t2,.bool s3,t3,.bool s4,t4,.bool s5,t5])with
 |true=>
  simp only[↓aQ,aR,↓aT,aK,↓reduceIte,aa,ah,ae,Tryz.f65,hl,g0,g1,P,P2,O2,gf,hr,zO];exact ir
 |false=>
  simp only[↓aQ,aR,↓aT,aK,↓reduceIte,aa,ah,ae,Tryz.f65,hl,g0,g1,P,P2,O2,gf,hr,zO];exact ir
theorem Ao{E:Env}{t len n:Nat}{ag:Bool}(h:ja E t=some (len,ag,n)){H:Hp}{b:Nat}{st:iH}{cs:List AV}(hb:H[b]?=some (.cells st cs))(hd:st≠ .dead)(hl:cs.length=len*n)(h0:0<len)(h1:0<n):AE E H t (.b6 b 0) none none=some (.aI b 0 len n len):=by
 unfold ja at h;cases hi:E.ty t with
 |none=>rw[hi]at h;cases h
 |some i=>
  rw[hi]at h;obtain⟨cS,isAgg,size,bytes,zero,eQ⟩:=i;cases cS<;>first|(cases h;done)|skip
  rename_i ln e;simp only at h;cases he:E.ty e with
  |none=>rw[he]at h;cases h
  |some ei=>
   rw[he]at h;simp only[Option.some.injEq,Prod.mk.injEq]at h;obtain⟨e1,e2,e3⟩:=h;subst e1;subst e2;subst e3
   have hp:0<ln*ei.size:=aUk h0 h1;have hc:¬(st=.dead∨cs.length<0+ln*ei.size∨cs.length=0):=by
    rintro(h|h|h)
    ·exact hd h
    ·omega
    ·omega
   have JZ:¬(st=.dead∨cs.length<ln*ei.size∨cs=[]):=by
    rintro(h|h|h)
    ·exact hd h
    ·omega
    ·rw[h]at hl;simp at hl;omega
   simp[AE,hi,jw,he,gG,hiE,loE,hb,JZ];omega
theorem tM{k l:Nat}{a b:V3}(ba:BV k a)(bb:BV l b):Bq (3*(k+l)+4) (qV a b):=by have h1:=((yk.add (ba.1.mul bb.1)).add (ba.2.1.mul bb.2.1)).add (ba.2.2.mul bb.2.2);exact h1.mono (by omega)
theorem zy{v w:AV}{a b:V3}(h:fS v a)(h':fS w b){k l:Nat}(ba:BV k a)(bb:BV l b)(hk:k+l<=10000000000):∃r,aO E 37 [v,w]=some r/\cX r (qV a b):=by
 obtain⟨r,hr,ir⟩:=xE (E:=E) (f:=67) (fc:=[]) aye rfl h h' (c:=azm a b) (fun x y hx hy=>gv (E:=E) hx hy ba.1 bb.1 (by omega)) (fun x y hx hy=>gv (E:=E) hx hy ba.2.1 bb.2.1 (by omega)) (fun x y hx hy=>gv (E:=E) hx hy ba.2.2 bb.2.2 (by omega));obtain⟨n0,m0,n1,m1,n2,m2,n3,m3,n4,m4,n5,m5,rfl,-,-,-,P,O⟩:=cD h;obtain⟨p0,q0,p1,q1,p2,q2,p3,q3,p4,q4,p5,q5,rfl,-,-,-,P',O'⟩:=cD h';obtain⟨s0,t0,s1,t1,s2,t2,s3,t3,s4,t4,s5,t5,rfl,e1,e2,e3,P2,O2⟩:=cD ir;obtain⟨u,hu,iu⟩:=Ts (E:=E) e1 e2 e3 (ba.1.mul bb.1) (ba.2.1.mul bb.2.1) (ba.2.2.mul bb.2.2) (by omega);obtain⟨i0,j0,i1,j1,_,_,rfl,-,-,-,-⟩:=bR iu;have D:=aU _ iu;have T3:=sw ir;have gf:=fun(H:Hp) (hH:H[3]?=some (.cells .live [.bool s0,t0,.bool s1,t1,.bool s2,t2,.bool s3,t3,.bool s4,t4,.bool s5,t5]))=>jQ (H:=H) (b:=3) (m:=3) (s:=4) hH (by decide) rfl T3
 have aom:=gf [.cells .live [.bool n0,m0,.bool n1,m1,.bool n2,m2,.bool n3,m3,.bool n4,m4,.bool n5,m5],.cells .live [.bool p0,q0,.bool p1,q1,.bool p2,q2,.bool p3,q3,.bool p4,q4,.bool p5,q5],.cells .live [.bool false,.aH,.bool false,.aH],.cells .live [.bool s0,t0,.bool s1,t1,.bool s2,t2,.bool s3,t3,.bool s4,t4,.bool s5,t5]] rfl;have lJ:=Ao (E:=E) ZJ (H:=[.cells .live [.bool n0,m0,.bool n1,m1,.bool n2,m2,.bool n3,m3,.bool n4,m4,.bool n5,m5],.cells .live [.bool p0,q0,.bool p1,q1,.bool p2,q2,.bool p3,q3,.bool p4,q4,.bool p5,q5],.cells .live [.bool false,.aH,.bool false,.aH],.cells .live [.bool s0,t0,.bool s1,t1,.bool s2,t2,.bool s3,t3,.bool s4,t4,.bool s5,t5]]) (b:=3) rfl (by decide) rfl (by decide) (by decide);refine tS ave ?_;intro ts hl g0 g1;unfold c37;cases zO:bJ (.agg [.bool i0,j0,.bool i1,j1])with
 |true=>
  simp only[↓aQ,aR,↓aT,aK,↓reduceIte,aa,ah,ae,Tryz.f37,hl,g0,g1,P,P',O2,hr,lJ,aom,hu,zO,D];exact iu
 |false=>
  simp only[↓aQ,aR,↓aT,aK,↓reduceIte,aa,ah,ae,Tryz.f37,hl,g0,g1,P,P',O2,hr,lJ,aom,hu,zO,D];exact iu
theorem arq{E:Env}{c:Bool}{t:Nat}:dy E c .rem t (.int .i64 1) (.int .i64 3)=some (.int .i64 1):=qL (a:=1) (b:=3) (by omega)
theorem ars{E:Env}{c:Bool}{t:Nat}:dy E c .rem t (.int .i64 2) (.int .i64 3)=some (.int .i64 2):=qL (a:=2) (b:=3) (by omega)
theorem art{E:Env}{c:Bool}{t:Nat}:dy E c .rem t (.int .i64 3) (.int .i64 3)=some (.int .i64 0):=qL (a:=3) (b:=3) (by omega)
theorem aru{E:Env}{c:Bool}{t:Nat}:dy E c .rem t (.int .i64 4) (.int .i64 3)=some (.int .i64 1):=qL (a:=4) (b:=3) (by omega)
theorem NR{v1 v2 v3 v4:AV}{a b c d:Rat}(h1:cX v1 a)(h2:cX v2 b)(h3:cX v3 c)(h4:cX v4 d){k l:Nat}(b1:Bq k a)(b2:Bq l b)(b3:Bq k c)(b4:Bq l d)(hk:k+l<=10000000000):
  ∃x y r,aO E 67 [v1,v2]=some x/\aO E 67 [v3,v4]=some y/\aO E 111 [x,y]=some r/\aN x=true/\aN y=true/\cX r (a*b-c*d):=by
 obtain⟨x,hx,ix⟩:=gv (E:=E) h1 h2 b1 b2 (by omega);obtain⟨y,hy,iy⟩:=gv (E:=E) h3 h4 b3 b4 (by omega);obtain⟨r,hr,ir⟩:=uk (E:=E) ix iy (b1.mul b2) (b3.mul b4) (by omega);exact⟨x,y,r,hx,hy,hr,jm ix,jm iy,ir⟩
theorem jb{k l:Nat}{a b:V3}(ba:BV k a)(bb:BV l b):BV (2*(k+l)+1) (bX a b):=
 ⟨((ba.2.1.mul bb.2.2).sub (ba.2.2.mul bb.2.1)).mono (by omega),((ba.2.2.mul bb.1).sub (ba.1.mul bb.2.2)).mono (by omega),((ba.1.mul bb.2.1).sub (ba.2.1.mul bb.1)).mono (by omega)⟩
theorem rS{v w:AV}{a b:V3}(h:fS v a)(h':fS w b){k l:Nat}(ba:BV k a)(bb:BV l b)(hk:k+l<=10000000000):∃r,aO E 66 [v,w]=some r/\fS r (bX a b):=by
 obtain⟨n0,m0,n1,m1,n2,m2,n3,m3,n4,m4,n5,m5,rfl,a1,a2,a3,P,O⟩:=cD h;obtain⟨p0,q0,p1,q1,p2,q2,p3,q3,p4,q4,p5,q5,rfl,b1,b2,b3,P',O'⟩:=cD h';obtain⟨x1,y1,r1,c1,c2,c3,P1,P2,d1⟩:=NR (E:=E) a2 b3 a3 b2 ba.2.1 bb.2.2 ba.2.2 bb.2.1 hk;obtain⟨x2,y2,r2,c4,c5,c6,P3,P4,d2⟩:=NR (E:=E) a3 b1 a1 b3 ba.2.2 bb.1 ba.1 bb.2.2 hk;obtain⟨x3,y3,r3,c7,c8,c9,P5,P6,d3⟩:=NR (E:=E) a1 b2 a2 b1 ba.1 bb.2.1 ba.2.1 bb.1 hk;obtain⟨i0,j0,i1,j1,_,_,rfl,-,-,-,-⟩:=bR d1;obtain⟨i2,j2,i3,j3,_,_,rfl,-,-,-,-⟩:=bR d2;obtain⟨i4,j4,i5,j5,_,_,rfl,-,-,-,-⟩:=bR d3;have D1:=aU _ d1;have D2:=aU _ d2;have D3:=aU _ d3;refine tS avC ?_;intro ts hl g0 g1;unfold c66;simp only[↓aQ,aR,aK,ah,ae,Tryz.f66,g0,g1];refine gb 4 ?_
 simp(maxSteps:=1000000)only[↓aQ,aR,↓aT,aK,↓reduceIte,aa,ah,ak,ae,an,ao,aq,ai,aA,hl,P,P',P1,P2,P3,P4,P5,P6,D1,D2,D3,c1,c2,c3,c4,c5,c6,c7,c8,c9,AF,MP,Rt,wk4,arq,ars,art,aru]
 exact⟨_,_,_,_,_,_,_,_,_,_,_,_,rfl,d1,d2,d3⟩
theorem tv{v w:AV}{a b:V3}(h:fS v a)(h':fS w b){k l:Nat}(ba:BV k a)(bb:BV l b)(hk:k+l<=100000000000):aO E 59 [v,w]=some (.int .i64 (yj a b)):=by
 refine ep ?_;obtain⟨n0,m0,n1,m1,n2,m2,n3,m3,n4,m4,n5,m5,rfl,a1,a2,a3,P,O⟩:=cD h;obtain⟨p0,q0,p1,q1,p2,q2,p3,q3,p4,q4,p5,q5,rfl,b1,b2,b3,P',O'⟩:=cD h';have c1:=tp (E:=E) a1 b1 ba.1 bb.1 hk;have c2:=tp (E:=E) a2 b2 ba.2.1 bb.2.1 hk;have c3:=tp (E:=E) a3 b3 ba.2.2 bb.2.2 hk;refine tS avv ?_;intro ts hl g0 g1;unfold c59;simp only[↓aQ,aR,ae,Tryz.f59,g0,g1];refine gb 4 ?_;unfold yj;generalize uG a.x b.x=x at*;generalize uG a.y b.y=y at*;generalize uG a.z b.z=z at*;by_cases hx:x=0
 ·subst hx;by_cases hy:y=0
  ·subst hy;by_cases hz:z=0
   ·subst hz
    simp(maxSteps:=1000000)only[↓aQ,aR,↓aT,aK,↓reduceIte,aa,ah,ak,ae,an,ao,aq,ai,aA,aE,hl,P,P',c1,c2,c3,AF,MP,Rt]
    simp
   ·have ez:(z !=0)=true:=bne_iff_ne.2 hz
    simp(maxSteps:=1000000)only[↓aQ,aR,↓aT,aK,↓reduceIte,aa,ah,ak,ae,an,ao,aq,ai,aA,aE,hl,P,P',c1,c2,c3,AF,MP,ez]
    simp
  ·have ey:(y !=0)=true:=bne_iff_ne.2 hy
   simp(maxSteps:=1000000)only[↓aQ,aR,↓aT,aK,↓reduceIte,aa,ah,ak,ae,an,ao,aq,ai,aA,aE,hl,P,P',c1,c2,AF,ey,hy]
   simp
 ·have ex:(x !=0)=true:=bne_iff_ne.2 hx
  simp(maxSteps:=1000000)only[↓aQ,aR,↓aT,aK,↓reduceIte,aa,ah,ak,ae,an,ao,aq,ai,hl,P,P',c1,ex,hx]
theorem C3{q p:Rat}:uG q p=0↔q=p:=by
 unfold uG;constructor
 ·intro h;by_cases h1:q<p
  ·rw[if_pos h1]at h;omega
  ·rw[if_neg h1]at h;by_cases h2:p<q
   ·rw[if_pos h2]at h;omega
   ·exact Rat.le_antisymm (Rat.not_lt.1 h2) (Rat.not_lt.1 h1)
 ·rintro rfl;rw[if_neg (Rat.lt_irrefl),if_neg (Rat.lt_irrefl)]
theorem JU{a b:V3}:yj a b=0↔a=b:=by
 obtain⟨a1,a2,a3⟩:=a;obtain⟨b1,b2,b3⟩:=b;unfold yj;simp only[V3.mk.injEq];constructor
 ·intro h;by_cases h1:uG a1 b1=0
  ·rw[if_neg (by simpa using h1)]at h;by_cases h2:uG a2 b2=0
   ·rw[if_neg (by simpa using h2)]at h;exact⟨C3.1 h1,C3.1 h2,C3.1 h⟩
   ·rw[if_pos h2]at h;exact absurd h h2
  ·rw[if_pos h1]at h;exact absurd h h1
 ·rintro⟨rfl,rfl,rfl⟩;have e:∀q,uG q q=0:=fun q=>C3.2 rfl
  simp[e]
instance {a b:V3}:Decidable (a=b):=decidable_of_iff _ JU
theorem YV{a b:V3}:(yj a b==0)=decide (a=b):=by
 by_cases h:a=b
 ·rw[cF h,beq_iff_eq,JU];exact h
 ·rw[cH h,beq_eq_false_iff_ne];exact fun e=>h (JU.1 e)
theorem iP{v:AV}{a:V3}(h:fS v a){k:Nat}(ba:BV k a)(hk:k<=90000000000):aO E 28 [v]=some (.bool (decide (a=v0))):=by refine ep ?_;have h1:=tv (E:=E) h CW ba bv0 (by omega);have h2:=YV (a:=a) (b:=v0);obtain⟨n0,m0,n1,m1,n2,m2,n3,m3,n4,m4,n5,m5,rfl,-,-,-,P,O⟩:=cD h;refine mO au8 ?_;intro ts hl g0;unfold c28;simp only[↓aQ,aR,↓aT,aK,↓reduceIte,aa,ah,ae,Tryz.f28,hl,g0,P,h1,h2]
theorem Gd{v w:AV}{a b:V3}(h:fS v a)(h':fS w b){k l:Nat}(ba:BV k a)(bb:BV l b)(hk:k+l<=10000000000):aO E 81 [v,w]=some (.bool (decide (a≠v0/\b≠v0/\bX a b=v0))):=by
 refine ep ?_;have h1:=iP (E:=E) h ba (by omega);have h2:=iP (E:=E) h' bb (by omega);obtain⟨r,hr,ir⟩:=rS (E:=E) h h' ba bb hk;have h3:=iP (E:=E) ir (jb ba bb) (by omega);have pr:=qe ir;obtain⟨n0,m0,n1,m1,n2,m2,n3,m3,n4,m4,n5,m5,rfl,-,-,-,P,O⟩:=cD h;obtain⟨p0,q0,p1,q1,p2,q2,p3,q3,p4,q4,p5,q5,rfl,-,-,-,P',O'⟩:=cD h';refine tS avO ?_;intro ts hl g0 g1;unfold c81;by_cases ha:a=v0
 ·rw[cF ha]at h1;simp only[↓aQ,aR,↓aT,aK,↓reduceIte,aa,ah,ae,Tryz.f81,hl,g0,g1,P,h1];simp[ha]
 ·rw[cH ha]at h1;by_cases hb:b=v0
  ·rw[cF hb]at h2;simp only[↓aQ,aR,↓aT,aK,↓reduceIte,aa,ah,ae,Tryz.f81,hl,g0,g1,P,P',h1,h2];simp[hb]
  ·rw[cH hb]at h2;simp only[↓aQ,aR,↓aT,aK,↓reduceIte,aa,ah,ae,Tryz.f81,hl,g0,g1,P,P',pr,h1,h2,hr,h3];simp[ha,hb]
end Go.Proofs.YtblnjkjjedanaaaGreatDoor
