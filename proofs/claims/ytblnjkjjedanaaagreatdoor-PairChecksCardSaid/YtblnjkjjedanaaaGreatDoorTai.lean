/- A part of the proof that PairChecks returns true for every input; no condition of its own. -/
import Derived.Test.YtblnjkjjedanaaaGreatDoorTah
set_option linter.all false
set_option maxHeartbeats 100000000
set_option maxRecDepth 100000
open Rat renaming divInt->aSu,num_divInt_den->aSx,num_intCast->aSH,den_intCast->aSI,num_eq_zero->aSJ,num_divInt->aSL,den_divInt->aSM,sub_eq_add_neg->aSN,divInt_mul_divInt->aSW,neg_num->aS3,neg_den->aS4
open Int renaming natAbs_natCast->aSv,gcd->aSw,sign_eq_one_of_pos->aSy,gcd_dvd_natAbs_right->aSB,gcd_comm->aSC,gcd_dvd_right->aSD,natAbs_eq_zero->aSO,ediv_pos_of_pos_of_dvd->aSP,natCast_ediv->aSQ,gcd_pos_iff->aSU,lt_trichotomy->aSZ,one_mul->aS2,reduceLE->an,reduceLT->ao,reduceToNat->aq,reduceGT->ar,reduceGE->au,reduceAdd->aA,reduceNeg->aB,reduceBEq->aD,reduceBNe->aE,reduceEq->aF
open Nat renaming lt_of_le_of_lt->aQQ,pow_le_pow_right->aQT,pos_of_ne_zero->aQ1,le_of_dvd->aSz,lt_of_lt_of_le->aNt,gcd_dvd_left->aSF,gcd->aSG,gcd_eq_zero_iff->aSK,le_trans->aNm,add_comm->aQ8,gcd_pos_of_pos_left->aSS,div_le_self->aQ9,mul_pos->aSV,pow_le_pow_left->aRn,zero_add->aLM,gcd_zero_left->aS1,reduceLT->aa,reduceEqDiff->ae,reduceAdd->ah,reduceLeDiff->ai,reduceBEq->aj,reduceMul->ak
open List renaming getD_eq_getElem?_getD->aQP,length_cons->aMm,all_eq_true->aLN,getElem?_eq_getElem->aL5,dropWhile_cons->aSA,drop_succ_cons->aPm,length_nil->aO9,mem_reverse->aSE,zipWith->aSR,head?_cons->aST,take_of_length_le->aPc,all_cons->aN1,mem_cons->aMc,length_pos_iff->aQS,takeWhile_cons->aSX,take_succ_cons->aPl,length_zipWith->aSY,not_mem_nil->aS7,cons_append->aPr
open Bool renaming true_and->aPs,false_eq_true->aKT,eq_false_iff->aS0
open Option renaming getD_some->aMp,map_some->aLT
namespace Go.Proofs.YtblnjkjjedanaaaGreatDoor
open Go Dv Dv.b7
variable{E:Env}[C:Ctx E]
noncomputable def JL:Code:=Hc 5 Hq
theorem UD:Hq=.seq (Jh Hq) (.seq (Jh (Hc 1 Hq)) (.seq (Jh (Hc 2 Hq)) (.seq (Jh (Hc 3 Hq)) (.seq (Jh (Hc 4 Hq)) JL)))):=by kernel_rfl
theorem mz{E:Env}{c:Bool}{t:Nat}{a b:List UInt8}:dC E c .eql t (.str a) (.str b)=some (.bool (a==b)):=rfl
theorem dV{E:Env}{c:Bool}{t:Nat}{a b:List UInt8}:dC E c .neq t (.str a) (.str b)=some (.bool (!(a==b))):=rfl
theorem RQ{n k:Nat}{i:IntKind}(h:k<=n):gW n n none (some (.int i (k:Int)))=some (0,k):=by unfold gW hiE asNat;simp only;rw[if_pos ⟨by omega,by omega⟩];simp[loE]
theorem KV{n k:Nat}{i:IntKind}(h:k<=n):gW n n (some (.int i (k:Int))) none=some (k,n):=by
 unfold gW hiE;simp only;unfold loE asNat;simp only;rw[if_pos ⟨by omega,by omega⟩]
 simp
theorem Pn{d0:List UInt8}(hd:∀b∈d0,lJ b=true)(OA:d0.length<=65536){neg:Bool}{G:AV->Prop}(hG:∀x,fm x (if neg=true then-(dv 0 d0:Int)else dv 0 d0)->G (.tuple [x,.int .i64 0])){ts:List AV}(hl:ts.length=71)(g2:gt ts 2=.b9 0 0)(g4:gt ts 4=.str d0)(g5:gt ts 5=.bool neg):
  V E JL ts [.cells .live [.bool false,.aH]] (oS E [.cell 2 60,.tmp 3] G):=by
 refine VS ?_;have T:=jb C.toOver;unfold JL
 dsimp only[Hc,Jh,Hq,Tryz.f119]
 have RC:fN .aH []:=⟨by simp,.inr ⟨rfl,.inl rfl⟩⟩;simp only[↓aN,aO];refine ft (fun k_ ts H=>∃d mv ml,k_=0+d.length/\ts.length=71/\gt ts 2=.b9 0 0/\gt ts 4=.str d/\gt ts 5=.bool neg/\gt ts 6=mv/\H=[.cells .live [.bool false,.aH]]/\(∀b∈d,lJ b=true)/\(fN mv ml)/\(Norm ml)/\(ml.length+d.length<=d0.length)/\(dv (val ml) d=dv 0 d0)) (d0.length) ?_ ?_
 rotate_left
 ·refine⟨d0,.aH,[],(by first|omega|rfl|(simp;done)),(by simp only[cP,hl]),?_⟩;simp only[cR,hl,aa,ae,g2,g4,g5]
  iterate 5 refine⟨by first|trivial|rfl|(congr 1;omega)|(simp;done)|(simp;omega),?_⟩
  refine⟨?_,?_,?_,?_,?_⟩
  ·exact hd
  ·exact RC
  ·intro a b c;simp at c
  ·simp
  ·rfl
 clear hl g2 g4 g5 ts;rintro k_ ts H ⟨d,mv,ml,rfl,hl,g2,g4,g5,g6,rfl,hdd,Sf,Mf,hlen,hv⟩;refine VS ?_;by_cases hd0:d=[]
 ·subst hd0;rw[FL]at hv;obtain⟨r,hr,xx⟩:=ko C Sf (by simp at hlen;omega) neg;have nw:=eh hr;rw[hv]at xx;obtain⟨nn,m2,l2,rfl,vN,_,_,_⟩:=id xx;simp only[↓aN,aO,↓aQ,aJ,↓reduceIte,aa,ah,ae,ar,hl,g2,g4,g5,g6,aM Sf,nw,aM vN,(aY vN).2];exact hG _ xx
 ·have Sa:0<d.length:=aQS.2 hd0;obtain⟨k,hk⟩:∃k,k=(d.length-1)%9+1:=⟨_,rfl⟩;have G7:k<=d.length:=by
   have:=Nat.mod_le (d.length-1) 9
   omega
  have hk9:k<=9:=by
   have:=Nat.mod_lt (d.length-1) (show 0<9 by omega)
   omega
  have dc:decide ((d.length:Int)>0)=true:=b8 (by omega);have w1:aX .i64 ((d.length:Int)-1)=((d.length-1:Nat):Int):=by rw[wrap_i64 (by omega) (by omega)];omega
  have VZ:∀{c:Bool} {t:Nat},dC E c .rem t (.int .i64 ((d.length-1:Nat):Int)) (.int .i64 9)=some (.int .i64 (((d.length-1)%9:Nat):Int)):=by intro c t;exact qH (b:=9) (by omega)
  have w2:aX .i64 ((((d.length-1)%9:Nat):Int)+1)=(k:Int):=by rw[wrap_i64 (by omega) (by omega)];omega
  simp only[↓aN,aO,aJ,aa,ae,hl,g4,dc,w1,VZ,w2];refine ft (fun k_ ts H=>∃i,k_=k-i/\ts.length=71/\gt ts 2=.b9 0 0/\gt ts 4=.str d/\gt ts 5=.bool neg/\gt ts 6=mv/\gt ts 7=.int .i64 (k:Int)/\gt ts 8=.int .u32 ((10^i:Nat):Int)/\gt ts 47=.int .i64 (k:Int)/\gt ts 48=.int .i64 (i:Int)/\H=[.cells .live [.bool false,.aH]]/\(i<=k)) (k) ?_ ?_
  rotate_left
  ·refine⟨0,(by first|omega|rfl|(simp;done)),(by simp only[cP,hl]),?_⟩;simp only[cR,hl,aa,ae,g2,g4,g5,g6]
   iterate 9 refine⟨by first|trivial|rfl|(congr 1;omega)|(simp;done)|(simp;omega),?_⟩
   ·omega
  clear hl g2 g4 g5 g6 ts;rintro k_ ts H ⟨i,rfl,hl,g2,g4,g5,g6,g7,g8,g47,g48,rfl,hik⟩;refine VS ?_;by_cases hi:i<k
  ·have di:decide ((i:Int)<(k:Int))=true:=b8 (by omega);have hp:10^(i+1)<=10^9:=aQT (by omega) (by omega);have w3:aX .u32 (((10^i:Nat):Int)*10)=((10^(i+1):Nat):Int):=by rw[Nat.pow_succ]at hp⊢;rw[qU];omega
   have w4:aX .i64 ((i:Int)+1)=((i+1:Nat):Int):=by rw[wrap_i64 (by omega) (by omega)];omega
   simp only[↓aN,aO,aa,ae,hl,g8,g47,g48,di,w3,w4];refine dG ?_;refine⟨_,?_,i+1,rfl,(by simp only[cP,hl]),?_⟩
   ·first|omega|(simp;omega)
   simp only[cR,hl,aa,ae,g2,g4,g5,g6,g7,g47]
   iterate 9 refine⟨by first|trivial|rfl|(congr 1;omega)|(simp;done)|(simp;omega),?_⟩
   ·omega
  ·have di:decide ((i:Int)<(k:Int))=false:=cg (by omega);obtain rfl:i=k:=by omega
   have htd:∀b∈d.take i,lJ b=true:=fun b hb=>hdd b (List.mem_of_mem_take hb)
   have htl:(d.take i).length=i:=by rw[List.length_take];omega
   have htv:=I7 htd;rw[htl]at htv;have hp9:10^i<=10^9:=aQT (by omega) (by omega);have hpu:=E8 (E:=E) (s:=d.take i) (by omega) (Vm htd (by intro e;rw[e]at htl;simp at htl;omega) (by omega));have b1:=RQ (n:=d.length) (k:=i) (i:=.i64) G7;have b2:=KV (n:=d.length) (k:=i) (i:=.i64) G7;have w5:aX .u32 ((dv 0 (d.take i):Nat):Int)=((dv 0 (d.take i):Nat):Int):=by rw[wrap_u32,Nat.mod_eq_of_lt (by omega)]
   obtain⟨sv,pV,sl,hsm,hsn,arn,aBW⟩:=Pg C Sf (by omega) (m:=10^i) (p:=dv 0 (d.take i)) (by omega) (by omega);have axR:List.take (d.length-i) (d.drop i)=d.drop i:=aPc (by simp);simp only[↓aN,aO,↓aQ,aJ,↓reduceIte,aa,ae,↓iM jT iB,hl,g4,g6,g7,g8,g47,g48,di,b1,b2,hpu,w5,pV,aM Sf,Nat.sub_zero,axR];refine dG ?_;refine⟨_,?_,d.drop i,sv,sl,rfl,(by simp only[cP,hl]),?_⟩
   ·first|omega|(simp;omega)
   simp only[cR,hl,aa,ae,g2,g5]
   iterate 5 refine⟨by first|trivial|rfl|(congr 1;omega)|(simp;done)|(simp;omega),?_⟩
   refine⟨?_,?_,?_,?_,?_⟩
   ·exact fun b hb=>hdd b (List.mem_of_mem_drop hb)
   ·exact hsm
   ·exact hsn
   ·rw[List.length_drop];omega
   ·rw[arn,<-hv];have h1:d=d.take i++d.drop i:=(List.take_append_drop i d).symm;have h2:dv (val ml) d=dv (dv (val ml) (d.take i)) (d.drop i):=by rw[<-Jk,<-h1]
    rw[h2,GJ (l:=d.take i) (acc:=val ml),htl]
def sr(neg:Bool)(d:List UInt8):Bool:=d.head?==some 48&&(decide (1<d.length)||neg)
theorem GO{s:List UInt8}(hs:s.length<=65536)(hd:∀b∈Lib.trimPrefix s [45],lJ b=true)(dY:Lib.trimPrefix s [45]≠[]):
  ∃r c,aP E 119 [.str s]=some (.tuple [r,.int .i64 c])/\(sr (Lib.hasPrefix s [45]) (Lib.trimPrefix s [45])=true->c=3/\r=.agg [.bool false,.aH])/\(sr (Lib.hasPrefix s [45]) (Lib.trimPrefix s [45])=false->c=0/\fm r (if Lib.hasPrefix s [45]=true then-(dv 0 (Lib.trimPrefix s [45]):Int)else dv 0 (Lib.trimPrefix s [45]))):=by
 have Es:=E4 (E:=E) (s:=s) (c:=[45]);have hdl:(Lib.trimPrefix s [45]).length<=s.length:=by
  unfold Lib.trimPrefix
  split<;>simp
 generalize Lib.trimPrefix s [45]=d at*;generalize Lib.hasPrefix s [45]=neg at*
 suffices hh:∃u,aP E 119 [.str s]=some u/\∃r c,u=.tuple [r,.int .i64 c]/\(sr neg d=true->c=3/\r=.agg [.bool false,.aH])/\(sr neg d=false->c=0/\fm r (if neg=true then-(dv 0 d:Int)else dv 0 d))by
  obtain⟨u,h1,r,c,rfl,h2⟩:=hh;exact⟨r,c,h1,h2⟩
 have Yr:=fun(G:AV->Prop) hG (ts:List AV) hl g2 g4 g5=>Pn (E:=E) hd (by omega) (neg:=neg) (G:=G) hG (ts:=ts) hl g2 g4 g5
 refine nY amo ?_;intro ts hl g0;have T:=jb C.toOver;rw[UD];generalize JL=D at Yr⊢
 dsimp only[Hc,Jh,Hq,Tryz.f119]
 obtain⟨c,r,rfl⟩:=List.exists_cons_of_ne_nil dY;have dl:decide ((s.length:Int)>65536)=false:=cg (by omega);have he:(c::r==([]:List UInt8))=false:=rfl;have wj:(c::r).all (fun b=>decide (48<=b.toNat/\b.toNat<=57))=true:=aLN.2 fun b hb=>hd b hb
 have abe:=Hr (E:=E) wj (by omega);have Dz:pZ E 9 (.str (c::r)) (.int .i64 0)=some (.int .u8 c.toNat):=Xg (i:=0) st9 rfl;by_cases h48:c=48
 ·have VT:((c.toNat:Nat):Int)=48:=by rw[h48];decide
  rw[VT]at Dz;have h49:(some c==some (48:UInt8))=true:=by rw[h48];decide
  by_cases hr:r=[]
  ·subst hr;have D8:∀n,sr n [c]=n:=by intro n;simp only[sr,aST,h49,aMm,aO9,aLM,Nat.lt_irrefl,decide_false,Bool.false_or,aPs]
   have dr:decide ((([c]:List UInt8).length:Int)>1)=false:=cg (by simp);cases neg with
   |true=>
    have OO:=D8 true;simp only[↓aN,aO,↓aQ,aJ,↓reduceIte,aa,ah,ae,ar,hl,g0,dl,Es,mz,he,abe,Dz];exact⟨_,_,rfl,fun _=>⟨rfl,rfl⟩,fun e=>absurd (OO.symm.trans e) (by decide)⟩
   |false=>
    have OO:=D8 false;simp only[↓aN,aO,↓aQ,aJ,↓reduceIte,aa,ae,ar,hl,g0,dl,Es,mz,he,abe,Dz];refine Yr _ (fun x hx=>⟨x,0,rfl,fun e=>absurd (OO.symm.trans e) (by decide),fun _=>⟨rfl,hx⟩⟩) _ (by simp only[cP,hl]) ?_ ?_ ?_
    all_goals simp only[cR,hl,aa,ae]
  ·have hrp:0<r.length:=aQS.2 hr;have dr:decide (((r.length+1:Nat):Int)>1)=true:=b8 (by omega);have OO:sr neg (c::r)=true:=by simp only[sr,aST,aMm,h49,aPs];rw[b8 (by omega),Bool.true_or]
   simp only[↓aN,aO,↓aQ,aJ,↓reduceIte,aa,ah,ae,hl,g0,dl,Es,mz,he,abe,Dz,dr];exact⟨_,_,rfl,fun _=>⟨rfl,rfl⟩,fun e=>absurd (OO.symm.trans e) (by decide)⟩
 ·have hc:((c.toNat:Int)==48)=false:=by
   rw[beq_eq_false_iff_ne];intro e;exact h48 (UInt8.toNat_inj.1 (by show c.toNat=48;omega))
  have OO:sr neg (c::r)=false:=by simp only[sr,aST];rw[show(some c==some (48:UInt8))=false by simpa using h48,Bool.false_and]
  simp only[↓aN,aO,↓aQ,aJ,aa,ae,hl,g0,dl,Es,mz,he,abe,Dz,hc];refine Yr _ (fun x hx=>⟨x,0,rfl,fun e=>absurd (OO.symm.trans e) (by decide),fun _=>⟨rfl,hx⟩⟩) _ (by simp only[cP,hl]) ?_ ?_ ?_
  all_goals simp only[cR,hl,aa,ae]
def dA(v:AV)(q:Rat):Prop:=∃na ma nb mb e,v=.agg [.bool na,ma,.bool nb,mb]/\fm (.agg [.bool na,ma]) q.num/\fm (.agg [.bool nb,mb]) e/\(e=(q.den:Int)∨(e=0/\q.den=1))
def Bq(k:Nat)(q:Rat):Prop:=q.num.natAbs<2^k/\q.den<2^k
theorem eK{z:Int}{k:Nat}(h:z.natAbs<2^k)(hk:k<=300000000000):Fit z:=by refine⟨k/32+1,by omega,aNt h ?_⟩;rw[show(4294967296:Nat)=2^32 from rfl,<-Nat.pow_mul];exact aQT (by omega) (by omega)
theorem fG{z:Nat}{k:Nat}(h:z<2^k)(hk:k<=300000000000):Fit (z:Int):=eK (by rw[aSv];exact h) hk
theorem AY{x y:Int}{k l:Nat}(h:x.natAbs<2^k)(h':y.natAbs<2^l):(x*y).natAbs<2^(k+l):=by rw[Int.natAbs_mul,Nat.pow_add];exact Nat.mul_lt_mul'' h h'
theorem Mq{x y:Int}{k:Nat}(h:x.natAbs<2^k)(h':y.natAbs<2^k):(x+y).natAbs<2^(k+1):=by rw[Nat.pow_succ];omega
theorem kZ{x k l:Nat}(h:x<2^k)(hl:k<=l):x<2^l:=aNt h (aQT (by omega) hl)
theorem Bq.mono{k l:Nat}{q:Rat}(h:Bq k q)(hl:k<=l):Bq l q:=⟨kZ h.1 hl,kZ h.2 hl⟩
theorem jA(q:Rat):0<q.den:=aQ1 q.den_nz
theorem Bq.pos{k:Nat}{q:Rat}(h:Bq k q):0<k:=by
 refine aQ1 fun e=>?_
 subst e
 have:=h.2
 have:=jA q
 omega
theorem Bq.int{k:Nat}{z:Int}(h:z.natAbs<2^k)(hk:0<k):Bq k (z:Rat):=by
 refine⟨by rw[aSH];exact h,?_⟩;rw[aSI]
 have:2^1<=2^k:=aQT (by omega) hk
 omega
theorem Bq.divInt{k:Nat}{a b:Int}(hb:b≠0)(h1:a.natAbs<2^k)(h2:b.natAbs<2^k):Bq k (aSu a b):=by
 have hg:0<b.gcd a:=aQ1 fun e=>hb (Int.gcd_eq_zero_iff.1 e).1
 constructor
 ·rw[aSL];refine aQQ ?_ h1;refine aNm (Int.natAbs_ediv_le_natAbs _ _) ?_;rw[Int.natAbs_mul]
  have:b.sign.natAbs<=1:=by
   rcases aSZ b 0 with h|h|h
   ·rw[Int.sign_eq_neg_one_of_neg h];decide
   ·exact absurd h hb
   ·rw[aSy h];decide
  have:=Nat.mul_le_mul_right a.natAbs this
  omega
 ·rw[aSM,if_neg hb];exact aQQ (aQ9 _ _) h2
theorem we:∃r,aP E 89 []=some r/\fm r 1:=by obtain⟨v,hv,hi⟩:=xM C (n:=1) (by omega) (by omega);have hp:=dD hi;obtain⟨na,m,l,rfl,hm,hn,tq,hz⟩:=id hi;refine gw0 awm ?_;intro ts hl;unfold c89;simp only[↓aN,aO,↓aQ,aJ,↓reduceIte,aa,ah,ae,Tryz.f89,hl,hv,aM hm,(aY hm).2];exact hi
theorem xf{z:Int}:pO z z=0:=by unfold pO;rw[if_neg (by omega),if_neg (by omega)]
theorem AE{a b:Int}(h:b<a):pO a b=1:=by unfold pO;rw[if_neg (by omega),if_pos h]
theorem adO{z:Int}(h:z<0):yX z= -1:=by unfold yX;rw[if_neg (by omega),if_pos h]
theorem J1{z:Int}(h:0<z):yX z=1:=by unfold yX;rw[if_neg (by omega),if_neg (by omega)]
theorem NL{v w:AV}{a b:Int}(h:fm v a)(k:fm w b)(fa:Fit a)(fb:Fit b)(hb:0<b):
  ∃r,aP E 109 [v,w]=some r/\dA r (aSu a b):=by
 have hg:0<aSw a b:=aSU.2 (.inr (by omega));obtain⟨g,hgc,gi⟩:=tQ (E:=E) h k fa fb;obtain⟨o,Uq,oi⟩:=we (E:=E);have fg:Fit ((aSw a b:Nat):Int):=by obtain⟨n,h1,h2⟩:=fb;refine⟨n,h1,aQQ ?_ h2⟩;rw[aSv];exact aSz (by omega) (aSB _ _)
 have f1:Fit 1:=⟨1,by omega,by decide⟩;have Gl:=kL C gi oi fg f1;have zT:(aSu a b).num=a/((aSw a b:Nat):Int):=by rw[aSL,aSy hb,aS2,aSC]
 have YW:((aSu a b).den:Int)=b/((aSw a b:Nat):Int):=by rw[aSM,if_neg (by omega),aSC b a,aSQ];congr 1;omega
 have mE:=jP C k;rw[J1 hb]at mE;have hbg:0<b/((aSw a b:Nat):Int):=aSP hb (by omega) (aSD _ _);obtain⟨q1,r1,vM,i1,j1⟩:=nK (E:=E) h gi fa fg (by omega) (Int.gcd_dvd_left _ _);obtain⟨q2,r2,tz,i2,j2⟩:=nK (E:=E) k gi fb fg (by omega) (aSD _ _);rw[<-zT]at i1;rw[<-YW]at i2;have kg:∀x y,fm x (aSu a b).num->fm y ((aSu a b).den:Int)->∀n m n' m',x=.agg [.bool n,m]->y=.agg [.bool n',m']->dA (.agg [.bool n,m,.bool n',m']) (aSu a b):=by intro x y hx hy n m n' m' e1 e2;subst e1 e2;exact⟨n,m,n',m',_,rfl,hx,hy,.inl rfl⟩
 have hv1:aSw a b=1->fm v (aSu a b).num:=by
  intro e;rw[zT,e];simpa using h
 have zY:aSw a b=1->fm w ((aSu a b).den:Int):=by
  intro e;rw[YW,e];simpa using k
 obtain⟨na,m,l,rfl,hm,-,-,-⟩:=id h;obtain⟨nb,m',l',rfl,kM,-,-,-⟩:=id k;obtain⟨ng,mg,lg,rfl,VC,-,-,-⟩:=id gi;obtain⟨no,mo,lo,rfl,xJ,-,-,-⟩:=id oi;obtain⟨n1,m1,l1,rfl,s8,-,-,-⟩:=id i1;obtain⟨n2,m2,l2,rfl,vN,-,-,-⟩:=id i2;obtain⟨n3,m3,l3,rfl,JQ,-,-,-⟩:=id j1;obtain⟨n4,m4,l4,rfl,Nx,-,-,-⟩:=id j2;refine tp afN ?_;intro ts hl g0 g1;unfold aji;by_cases h1:aSw a b=1
 ·rw[h1,show((1:Nat):Int)=1 from rfl,xf]at Gl;simp only[↓aN,aO,↓aQ,aJ,↓reduceIte,aa,ah,ae,ao,Tryz.f109,ai,aE,hl,g0,g1,mE,hgc,Uq,Gl,aM hm,aM kM,aM VC,aM xJ,(aY hm).2,(aY kM).2,(aY VC).2];exact kg _ _ (hv1 h1) (zY h1) _ _ _ _ rfl rfl
 ·rw[AE (by omega)]at Gl;simp only[↓aN,aO,↓aQ,aJ,↓reduceIte,aa,ah,ae,ao,Tryz.f109,ai,aE,hl,g0,g1,mE,hgc,Uq,Gl,vM,tz,aM hm,aM kM,aM VC,aM xJ,(aY VC).2,aM s8,aM vN,(aY s8).2,(aY vN).2];exact kg _ _ i1 i2 _ _ _ _ rfl rfl
theorem Of{v0 w0:AV}{a0 b0:Int}(h0:fm v0 a0)(k0:fm w0 b0)(fa0:Fit a0)(fb0:Fit b0)(qM:b0<0):
  ∃r,aP E 109 [v0,w0]=some r/\dA r (aSu a0 b0):=by
 have mE:=jP C k0;rw[adO qM]at mE;obtain⟨v,hnv,h⟩:=FK C h0;obtain⟨w,hnw,k⟩:=FK C k0;have fa:=SY fa0;have fb:=SY fb0;have hb:0< -b0:=by omega
 have hdd:aSu a0 b0=aSu (-a0) (-b0):=by
  have:=Rat.divInt_mul_right (n:=a0) (d:=b0) (a:= -1) (by decide)
  rw[<-this];congr 1<;>omega
 rw[hdd];obtain⟨nx,mx,lx,rfl,hmx,-,-,-⟩:=id h0;obtain⟨ny,my,ly,rfl,hmy,-,-,-⟩:=id k0;clear h0 k0 hdd;generalize-a0=a at*;generalize-b0=b at*;have hg:0<aSw a b:=aSU.2 (.inr (by omega));obtain⟨g,hgc,gi⟩:=tQ (E:=E) h k fa fb;obtain⟨o,Uq,oi⟩:=we (E:=E);have fg:Fit ((aSw a b:Nat):Int):=by obtain⟨n,h1,h2⟩:=fb;refine⟨n,h1,aQQ ?_ h2⟩;rw[aSv];exact aSz (by omega) (aSB _ _)
 have f1:Fit 1:=⟨1,by omega,by decide⟩;have Gl:=kL C gi oi fg f1;have zT:(aSu a b).num=a/((aSw a b:Nat):Int):=by rw[aSL,aSy hb,aS2,aSC]
 have YW:((aSu a b).den:Int)=b/((aSw a b:Nat):Int):=by rw[aSM,if_neg (by omega),aSC b a,aSQ];congr 1;omega
 have hbg:0<b/((aSw a b:Nat):Int):=aSP hb (by omega) (aSD _ _);obtain⟨q1,r1,vM,i1,j1⟩:=nK (E:=E) h gi fa fg (by omega) (Int.gcd_dvd_left _ _);obtain⟨q2,r2,tz,i2,j2⟩:=nK (E:=E) k gi fb fg (by omega) (aSD _ _);rw[<-zT]at i1;rw[<-YW]at i2;have kg:∀x y,fm x (aSu a b).num->fm y ((aSu a b).den:Int)->∀n m n' m',x=.agg [.bool n,m]->y=.agg [.bool n',m']->dA (.agg [.bool n,m,.bool n',m']) (aSu a b):=by intro x y hx hy n m n' m' e1 e2;subst e1 e2;exact⟨n,m,n',m',_,rfl,hx,hy,.inl rfl⟩
 have hv1:aSw a b=1->fm v (aSu a b).num:=by
  intro e;rw[zT,e];simpa using h
 have zY:aSw a b=1->fm w ((aSu a b).den:Int):=by
  intro e;rw[YW,e];simpa using k
 obtain⟨na,m,l,rfl,hm,-,-,-⟩:=id h;obtain⟨nb,m',l',rfl,kM,-,-,-⟩:=id k;obtain⟨ng,mg,lg,rfl,VC,-,-,-⟩:=id gi;obtain⟨no,mo,lo,rfl,xJ,-,-,-⟩:=id oi;obtain⟨n1,m1,l1,rfl,s8,-,-,-⟩:=id i1;obtain⟨n2,m2,l2,rfl,vN,-,-,-⟩:=id i2;obtain⟨n3,m3,l3,rfl,JQ,-,-,-⟩:=id j1;obtain⟨n4,m4,l4,rfl,Nx,-,-,-⟩:=id j2;refine tp afN ?_;intro ts hl g0 g1;unfold aji;by_cases h1:aSw a b=1
 ·rw[h1,show((1:Nat):Int)=1 from rfl,xf]at Gl;simp only[↓aN,aO,↓aQ,aJ,↓reduceIte,aa,ah,ae,ao,Tryz.f109,ai,aB,aE,hl,g0,g1,mE,hnv,hnw,aM hmx,aM hmy,hgc,Uq,Gl,aM hm,aM kM,aM VC,aM xJ,(aY hm).2,(aY kM).2,(aY VC).2];exact kg _ _ (hv1 h1) (zY h1) _ _ _ _ rfl rfl
 ·rw[AE (by omega)]at Gl;simp only[↓aN,aO,↓aQ,aJ,↓reduceIte,aa,ah,ae,ao,Tryz.f109,ai,aB,aE,hl,g0,g1,mE,hnv,hnw,aM hmx,aM hmy,hgc,Uq,Gl,vM,tz,aM hm,aM kM,aM VC,aM xJ,(aY hm).2,(aY kM).2,(aY VC).2,aM s8,aM vN,(aY s8).2,(aY vN).2];exact kg _ _ i1 i2 _ _ _ _ rfl rfl
theorem qu{v w:AV}{a b:Int}(h:fm v a)(k:fm w b)(fa:Fit a)(fb:Fit b)(hb:b≠0):
  ∃r,aP E 109 [v,w]=some r/\dA r (aSu a b):=by
 rcases aSZ b 0 with h1|h1|h1
 ·exact Of h k fa fb h1
 ·exact absurd h1 hb
 ·exact NL h k fa fb h1
theorem bX{v:AV}{q:Rat}(h:dA v q):∃na ma nb mb l l',v=.agg [.bool na,ma,.bool nb,mb]/\fm (.agg [.bool na,ma]) q.num/\fN ma l/\fN mb l'/\((fm (.agg [.bool nb,mb]) 0/\q.den=1)∨fm (.agg [.bool nb,mb]) (q.den:Int)):=by
 obtain⟨na,ma,nb,mb,e,rfl,h1,h2,h3⟩:=h;obtain⟨_,_,l,e1,hm,-,-,-⟩:=id h1;obtain⟨_,_,l',e2,kM,-,-,-⟩:=id h2;simp only[AV.agg.injEq,List.cons.injEq,AV.bool.injEq,and_true]at e1 e2;obtain⟨-,rfl⟩:=e1;obtain⟨-,rfl⟩:=e2;refine⟨na,ma,nb,mb,l,l',rfl,h1,hm,kM,?_⟩;rcases h3 with rfl|⟨rfl,h3⟩
 ·exact .inr h2
 ·exact .inl ⟨h2,h3⟩
theorem jg{v:AV}{q:Rat}(h:dA v q):aU v=true:=by obtain⟨na,ma,nb,mb,l,l',rfl,-,h1,h2,-⟩:=bX h;simp[aU,bE,aM h1,aM h2]
theorem mT{v:AV}{q:Rat}(h:dA v q):∃r,aP E 105 [v]=some r/\fm r (q.den:Int):=by
 obtain⟨na,ma,nb,mb,l,l',rfl,h1,hm,kM,h2⟩:=bX h;refine nY aoL ?_;intro ts hl g0;unfold alC;rcases h2 with⟨h2,h3⟩|h2
 ·obtain⟨o,Uq,oi⟩:=we (E:=E);obtain⟨no,mo,lo,rfl,xJ,-,-,-⟩:=id oi;have mE:=jP C h2;rw[show yX 0=0 from rfl]at mE;simp only[↓aN,aO,↓aQ,aJ,↓reduceIte,aa,ah,ae,Tryz.f105,hl,g0,aM kM,mE,Uq,aM xJ,(aY xJ).2];rw[h3];exact oi
 ·have mE:=jP C h2;rw[J1 (by have:=jA q;omega)]at mE;simp only[↓aN,aO,↓aQ,aJ,↓reduceIte,aa,ah,ae,Tryz.f105,aD,hl,g0,aM kM,mE,(aY kM).2];exact h2
theorem nk{v:AV}{q:Rat}(h:dA v q){k:Nat}(hk:Bq k q)(Lk:k<=100000000000):aP E 50 [v]=some (.bool (decide (q.den=1))):=by
 refine dX ?_;obtain⟨na,ma,nb,mb,l,l',rfl,h1,hm,kM,h2⟩:=bX h;refine nY auS ?_;intro ts hl g0;unfold c50;rcases h2 with⟨h2,h3⟩|h2
 ·have mE:=jP C h2;rw[show yX 0=0 from rfl]at mE;simp only[↓aN,aO,↓aQ,aJ,↓reduceIte,aa,ah,ae,Tryz.f50,hl,g0,aM kM,mE];rw[b8 h3]
 ·have mE:=jP C h2;have Sa:=jA q;rw[J1 (by omega)]at mE;obtain⟨o,Uq,oi⟩:=we (E:=E);have Gl:=kL C h2 oi (fG hk.2 (by omega)) ⟨1,by omega,by decide⟩;obtain⟨no,mo,lo,rfl,xJ,-,-,-⟩:=id oi;have hc:(pO (q.den:Int) 1==0)=decide (q.den=1):=by
   by_cases hd:q.den=1
   ·rw[hd,show((1:Nat):Int)=1 from rfl,xf];rfl
   ·rw[AE (by omega),cg hd];rfl
  simp only[↓aN,aO,↓aQ,aJ,↓reduceIte,aa,ah,ae,Tryz.f50,aD,hl,g0,aM kM,mE,Uq,Gl,aM xJ,hc]
theorem Wh:fm (.agg [.bool false,.aH]) 0:=⟨false,.aH,[],rfl,⟨by simp,.inr ⟨rfl,.inl rfl⟩⟩,by intro a b c;simp at c,by simp,by simp[val]⟩
theorem Aq{n:Bool}{m:AV}{z:Int}(h:fm (.agg [.bool n,m]) z):dA (.agg [.bool n,m,.bool false,.aH]) (z:Rat):=
 ⟨n,m,false,.aH,0,rfl,by rw[aSH];exact h,Wh,.inr ⟨rfl,aSI _⟩⟩
theorem Et{q:Rat}(h:q.den=1):q=(q.num:Rat):=Rat.ext (by rw[aSH]) (by rw[aSI,h])
theorem rU:dA (.agg [.bool false,.aH,.bool false,.aH]) 0:=Aq (z:=0) Wh
theorem gz{v:AV}{q:Rat}(h:dA v q):aP E 38 [v]=some (.int .i64 (yX q.num)):=by refine dX ?_;obtain⟨na,ma,nb,mb,l,l',rfl,h1,hm,kM,h2⟩:=bX h;have mE:=jP C h1;refine nY aw7 ?_;intro ts hl g0;unfold c38;simp only[↓aN,aO,↓aQ,aJ,↓reduceIte,aa,ah,ae,Tryz.f38,ai,hl,g0,aM hm,mE]
theorem WY{v:AV}{q:Rat}(h:dA v q):∃r,aP E 108 [v]=some r/\fm r q.num:=by obtain⟨na,ma,nb,mb,l,l',rfl,h1,hm,kM,h2⟩:=bX h;refine nY al8 ?_;intro ts hl g0;unfold ao0;simp only[↓aN,aO,aJ,↓reduceIte,aa,ah,ae,Tryz.f108,ai,hl,g0,aM hm,(aY hm).2];exact h1
theorem kF{n:Int}(h0: -9223372036854775808<=n)(h1:n<9223372036854775808):∃r,aP E 18 [.int .i64 n]=some r/\dA r (n:Rat):=by obtain⟨v,hv,hi⟩:=xM C h0 h1;obtain⟨na,m,l,rfl,hm,-,-,-⟩:=id hi;refine nY aw5 ?_;intro ts hl g0;unfold c18;simp only[↓aN,aO,↓aQ,aJ,↓reduceIte,aa,ah,ae,Tryz.f18,ai,hl,g0,hv,aM hm,(aY hm).2];exact Aq hi
theorem tW{v:AV}{q:Rat}(h:dA v q):∃r,aP E 137 [v]=some r/\dA r (-q):=by
 obtain⟨na,ma,nb,mb,l,l',rfl,h1,hm,kM,h2⟩:=bX h;obtain⟨n,hn,ni⟩:=FK C h1;obtain⟨nn,mn,ln,rfl,hmn,-,-,-⟩:=id ni;have kg:dA (.agg [.bool nn,mn,.bool nb,mb]) (-q):=by
  rcases h2 with⟨h2,h3⟩|h2
  ·exact⟨nn,mn,nb,mb,0,rfl,by rw[aS3];exact ni,h2,.inr ⟨rfl,by rw[aS4];exact h3⟩⟩
  ·exact⟨nn,mn,nb,mb,_,rfl,by rw[aS3];exact ni,h2,.inl (by rw[aS4])⟩
 refine nY ao6 ?_;intro ts hl g0;unfold asq;simp only[↓aN,aO,↓aQ,aJ,↓reduceIte,aa,ah,ae,Tryz.f137,ai,hl,g0,aM hm,aM kM,hn,aM hmn,(aY hmn).2,(aY kM).2];exact kg
theorem Bq.neg{k:Nat}{q:Rat}(h:Bq k q):Bq k (-q):=by
 refine⟨?_,?_⟩
 ·rw[aS3,Int.natAbs_neg];exact h.1
 ·rw[aS4];exact h.2
theorem EO(q p:Rat):q*p=aSu (q.num*p.num) ((q.den:Int)*p.den):=by rw[<-aSW,aSx,aSx]
theorem GS(q p:Rat):q+p=aSu (q.num*(p.den:Int)+p.num*(q.den:Int)) ((q.den:Int)*p.den):=by
 rw[<-Rat.divInt_add_divInt _ _ (by have:=q.den_nz;omega) (by have:=p.den_nz;omega),aSx,aSx]
theorem uo(q p:Rat):(q.den:Int)*p.den≠0:=by
 have h1:=jA q;have h2:=jA p
 have:=aSV h1 h2
 rw[<-Int.natCast_mul];omega
theorem bits_nat{x y k l:Nat}(h:x<2^k)(h':y<2^l):((x:Int)*(y:Int)).natAbs<2^(k+l):=AY (by rw[aSv];exact h) (by rw[aSv];exact h')
theorem o6{x:Int}{y k l:Nat}(h:x.natAbs<2^k)(h':y<2^l):(x*(y:Int)).natAbs<2^(k+l):=AY h (by rw[aSv];exact h')
theorem Bq.mul{k l:Nat}{q p:Rat}(h:Bq k q)(h':Bq l p):Bq (k+l) (q*p):=by rw[EO];exact Bq.divInt (uo _ _) (AY h.1 h'.1) (bits_nat h.2 h'.2)
theorem Bq.add{k l:Nat}{q p:Rat}(h:Bq k q)(h':Bq l p):Bq (k+l+1) (q+p):=by
 rw[GS];exact Bq.divInt (uo _ _) (Mq (o6 h.1 h'.2) (by rw[aQ8 k l];exact o6 h'.1 h.2)) (kZ (bits_nat h.2 h'.2) (by omega))
theorem gQ{v w:AV}{q p:Rat}(h:dA v q)(h':dA w p){k l:Nat}(b:Bq k q)(b':Bq l p)(hk:k+l<=100000000000):∃r,aP E 67 [v,w]=some r/\dA r (q*p):=by
 have zY:=nk (E:=E) h b (by omega);have Cf:=nk (E:=E) h' b' (by omega);obtain⟨d1,vM,VD⟩:=mT (E:=E) h;obtain⟨d2,tz,VN⟩:=mT (E:=E) h';obtain⟨na,ma,nb,mb,l1,l1',rfl,h1,hm,kM,-⟩:=bX h;obtain⟨nc,mc,nd,md,l2,l2',rfl,h2,hn,yU,-⟩:=bX h';obtain⟨x,hx,ix⟩:=lT C h1 h2 (eK b.1 (by omega)) (eK b'.1 (by omega));obtain⟨nx,mx,lx,rfl,hmx,-,-,-⟩:=id ix;refine tp azR ?_;intro ts hl g0 g1;unfold c67;by_cases hq:q.den=1/\p.den=1
 ·rw[b8 hq.1]at zY;rw[b8 hq.2]at Cf;simp only[↓aN,aO,↓aQ,aJ,↓reduceIte,aa,ah,ae,Tryz.f67,ai,hl,g0,g1,zY,Cf,hx,aM hm,aM kM,aM hn,aM yU,aM hmx,(aY hmx).2];rw[Et hq.1,Et hq.2,<-Rat.intCast_mul];exact Aq ix
 ·obtain⟨y,hy,iy⟩:=lT C VD VN (fG b.2 (by omega)) (fG b'.2 (by omega));obtain⟨r,hr,ir⟩:=qu (E:=E) ix iy (eK (AY b.1 b'.1) (by omega)) (eK (bits_nat b.2 b'.2) (by omega)) (uo _ _);rw[<-EO]at ir;have pd1:=dD VD;have pd2:=dD VN;have py:=dD iy;obtain⟨n3,m3,n4,m4,l3,l3',rfl,-,JQ,Nx,-⟩:=bX ir;by_cases NK:q.den=1
  ·have hq2:p.den≠1:=fun e=>hq ⟨NK,e⟩
   rw[b8 NK]at zY;rw[cg hq2]at Cf;simp only[↓aN,aO,↓aQ,aJ,↓reduceIte,aa,ah,ae,Tryz.f67,ai,hl,g0,g1,zY,Cf,hx,hy,hr,vM,tz,pd1,pd2,py,aM hm,aM kM,aM hn,aM yU,aM hmx,aM JQ,aM Nx,(aY JQ).2,(aY Nx).2];exact ir
  ·rw[cg NK]at zY;simp only[↓aN,aO,↓aQ,aJ,↓reduceIte,aa,ah,ae,Tryz.f67,ai,hl,g0,g1,zY,hx,hy,hr,vM,tz,pd1,pd2,py,aM hm,aM kM,aM hn,aM yU,aM hmx,aM JQ,aM Nx,(aY JQ).2,(aY Nx).2];exact ir
theorem mj{v w:AV}{q p:Rat}(h:dA v q)(h':dA w p){k l:Nat}(b:Bq k q)(b':Bq l p)(hk:k+l<=100000000000):∃r,aP E 114 [v,w]=some r/\dA r (q+p):=by
 have zY:=nk (E:=E) h b (by omega);have Cf:=nk (E:=E) h' b' (by omega);obtain⟨d1,vM,VD⟩:=mT (E:=E) h;obtain⟨d2,tz,VN⟩:=mT (E:=E) h';obtain⟨na,ma,nb,mb,l1,l1',rfl,h1,hm,kM,-⟩:=bX h;obtain⟨nc,mc,nd,md,l2,l2',rfl,h2,hn,yU,-⟩:=bX h';refine tp aqn ?_;intro ts hl g0 g1;unfold alK;by_cases hq:q.den=1/\p.den=1
 ·obtain⟨x,hx,ix⟩:=Nt C h1 h2 (eK b.1 (by omega)) (eK b'.1 (by omega));obtain⟨nx,mx,lx,rfl,hmx,-,-,-⟩:=id ix;rw[b8 hq.1]at zY;rw[b8 hq.2]at Cf;simp only[↓aN,aO,↓aQ,aJ,↓reduceIte,aa,ah,ae,Tryz.f114,ai,hl,g0,g1,zY,Cf,hx,aM hm,aM kM,aM hn,aM yU,aM hmx,(aY hmx).2];rw[Et hq.1,Et hq.2,<-Rat.intCast_add];exact Aq ix
 ·obtain⟨x1,hx1,ix1⟩:=lT C h1 VN (eK b.1 (by omega)) (fG b'.2 (by omega));obtain⟨x2,hx2,ix2⟩:=lT C h2 VD (eK b'.1 (by omega)) (fG b.2 (by omega));have bx1:=o6 b.1 b'.2;have bx2:=o6 b'.1 b.2;rw[aQ8 l k]at bx2;obtain⟨x,hx,ix⟩:=Nt C ix1 ix2 (eK bx1 (by omega)) (eK bx2 (by omega));obtain⟨y,hy,iy⟩:=lT C VD VN (fG b.2 (by omega)) (fG b'.2 (by omega));obtain⟨r,hr,ir⟩:=qu (E:=E) ix iy (eK (Mq bx1 bx2) (by omega)) (eK (bits_nat b.2 b'.2) (by omega)) (uo _ _);rw[<-GS]at ir;have pd1:=dD VD;have pd2:=dD VN;have px1:=dD ix1;have px2:=dD ix2;have px:=dD ix;have py:=dD iy;obtain⟨n3,m3,n4,m4,l3,l3',rfl,-,JQ,Nx,-⟩:=bX ir;by_cases NK:q.den=1
  ·have hq2:p.den≠1:=fun e=>hq ⟨NK,e⟩
   rw[b8 NK]at zY;rw[cg hq2]at Cf;simp only[↓aN,aO,↓aQ,aJ,↓reduceIte,aa,ah,ae,Tryz.f114,ai,hl,g0,g1,zY,Cf,hx1,hx2,hx,hy,hr,vM,tz,pd1,pd2,px1,px2,px,py,aM hm,aM kM,aM hn,aM yU,aM JQ,aM Nx,(aY JQ).2,(aY Nx).2];exact ir
  ·rw[cg NK]at zY;simp only[↓aN,aO,↓aQ,aJ,↓reduceIte,aa,ah,ae,Tryz.f114,ai,hl,g0,g1,zY,hx1,hx2,hx,hy,hr,vM,tz,pd1,pd2,px1,px2,px,py,aM hm,aM kM,aM hn,aM yU,aM JQ,aM Nx,(aY JQ).2,(aY Nx).2];exact ir
theorem tR{v w:AV}{q p:Rat}(h:dA v q)(h':dA w p){k l:Nat}(b:Bq k q)(b':Bq l p)(hk:k+l<=100000000000):∃r,aP E 111 [v,w]=some r/\dA r (q-p):=by obtain⟨x,hx,ix⟩:=tW (E:=E) h';obtain⟨r,hr,ir⟩:=mj (E:=E) h ix b b'.neg hk;rw[<-aSN]at ir;have px:=jg ix;obtain⟨na,ma,nb,mb,l1,l1',rfl,h1,hm,kM,-⟩:=bX h;obtain⟨nc,mc,nd,md,l2,l2',rfl,h2,hn,yU,-⟩:=bX h';obtain⟨n3,m3,n4,m4,l3,l3',rfl,-,JQ,Nx,-⟩:=bX ir;refine tp ap5 ?_;intro ts hl g0 g1;unfold asr;simp only[↓aN,aO,↓aQ,aJ,↓reduceIte,aa,ah,ae,Tryz.f111,hl,g0,g1,hx,hr,px,aM hm,aM kM,aM hn,aM yU,aM JQ,aM Nx,(aY JQ).2,(aY Nx).2];exact ir
theorem Bq.sub{k l:Nat}{q p:Rat}(h:Bq k q)(h':Bq l p):Bq (k+l+1) (q-p):=by rw[aSN];exact h.add h'.neg
theorem FU(q p:Rat):q/p=aSu (q.num*(p.den:Int)) ((q.den:Int)*p.num):=by rw[Rat.div_def,Rat.inv_def];rw[<-aSW,aSx]
theorem ya{v w:AV}{q p:Rat}(h:dA v q)(h':dA w p){k l:Nat}(b:Bq k q)(b':Bq l p)(hk:k+l<=100000000000)(hp:p≠0):∃r,aP E 64 [v,w]=some (.tuple [r,.int .i64 0])/\dA r (q/p):=by
 suffices hh:∃u,aP E 64 [v,w]=some u/\∃r,u=.tuple [r,.int .i64 0]/\dA r (q/p)by
  obtain⟨u,h1,r,rfl,h2⟩:=hh;exact⟨r,h1,h2⟩
 have hpn:p.num≠0:=fun e=>hp (aSJ.1 e)
 have mE:=gz (E:=E) h';have OF:(yX p.num==0)=false:=by
  unfold yX;rw[if_neg hpn]
  split<;>rfl
 obtain⟨d1,vM,VD⟩:=mT (E:=E) h;obtain⟨d2,tz,VN⟩:=mT (E:=E) h';obtain⟨na,ma,nb,mb,l1,l1',rfl,h1,hm,kM,-⟩:=bX h;obtain⟨nc,mc,nd,md,l2,l2',rfl,h2,hn,yU,-⟩:=bX h';obtain⟨x1,hx1,ix1⟩:=lT C h1 VN (eK b.1 (by omega)) (fG b'.2 (by omega));obtain⟨x2,hx2,ix2⟩:=lT C VD h2 (fG b.2 (by omega)) (eK b'.1 (by omega));have dY:(q.den:Int)*p.num≠0:=Int.mul_ne_zero (by have:=q.den_nz;omega) hpn;have b2:=o6 b'.1 b.2;rw[Int.mul_comm,aQ8]at b2;obtain⟨r,hr,ir⟩:=qu (E:=E) ix1 ix2 (eK (o6 b.1 b'.2) (by omega)) (eK b2 (by omega)) dY;rw[<-FU]at ir;have pd1:=dD VD;have pd2:=dD VN;have px1:=dD ix1;have px2:=dD ix2;obtain⟨n3,m3,n4,m4,l3,l3',rfl,-,JQ,Nx,-⟩:=bX ir;refine tp avK ?_;intro ts hl g0 g1;unfold c64;simp only[↓aN,aO,↓aQ,aJ,↓reduceIte,aa,ah,ae,Tryz.f64,ai,hl,g0,g1,mE,OF,hx1,hx2,hr,vM,tz,pd1,pd2,px1,px2,aM hm,aM kM,aM hn,aM yU,aM JQ,aM Nx,(aY JQ).2,(aY Nx).2];exact⟨_,rfl,ir⟩
theorem Bq.div{k l:Nat}{q p:Rat}(h:Bq k q)(h':Bq l p)(hp:p≠0):Bq (k+l) (q/p):=by
 rw[FU];have hpn:p.num≠0:=fun e=>hp (aSJ.1 e)
 refine Bq.divInt (Int.mul_ne_zero (by have:=q.den_nz;omega) hpn) (o6 h.1 h'.2) ?_;rw[Int.mul_comm,aQ8];exact o6 h'.1 h.2
def uV(q p:Rat):Int:=if q<p then-1 else if p<q then 1 else 0
theorem IY(q p:Rat):pO (q.num*(p.den:Int)) (p.num*(q.den:Int))=uV q p:=by unfold pO uV;simp only[Rat.lt_iff]
theorem tu{v w:AV}{q p:Rat}(h:dA v q)(h':dA w p){k l:Nat}(b:Bq k q)(b':Bq l p)(hk:k+l<=100000000000):aP E 102 [v,w]=some (.int .i64 (uV q p)):=by
 refine dX ?_;have zY:=nk (E:=E) h b (by omega);have Cf:=nk (E:=E) h' b' (by omega);obtain⟨d1,vM,VD⟩:=mT (E:=E) h;obtain⟨d2,tz,VN⟩:=mT (E:=E) h';obtain⟨na,ma,nb,mb,l1,l1',rfl,h1,hm,kM,-⟩:=bX h;obtain⟨nc,mc,nd,md,l2,l2',rfl,h2,hn,yU,-⟩:=bX h';obtain⟨x1,hx1,ix1⟩:=lT C h1 VN (eK b.1 (by omega)) (fG b'.2 (by omega));obtain⟨x2,hx2,ix2⟩:=lT C h2 VD (eK b'.1 (by omega)) (fG b.2 (by omega));have vL:=kL C h1 h2 (eK b.1 (by omega)) (eK b'.1 (by omega));have uk:=kL C ix1 ix2 (eK (o6 b.1 b'.2) (by omega)) (eK (o6 b'.1 b.2) (by omega));rw[IY]at uk;have pd1:=dD VD;have pd2:=dD VN;have px1:=dD ix1;have px2:=dD ix2;refine tp aoh ?_;intro ts hl g0 g1;unfold arv;by_cases NK:q.den=1
 ·rw[b8 NK]at zY;by_cases hq2:p.den=1
  ·rw[b8 hq2]at Cf;simp only[↓aN,aO,↓aQ,aJ,↓reduceIte,aa,ah,ae,Tryz.f102,ai,hl,g0,g1,zY,Cf,vL,aM hm,aM kM,aM hn,aM yU];rw[<-IY,NK,hq2];simp only[Int.cast_ofNat_Int,Int.mul_one]
  ·rw[cg hq2]at Cf;simp only[↓aN,aO,↓aQ,aJ,↓reduceIte,aa,ah,ae,Tryz.f102,ai,hl,g0,g1,zY,Cf,uk,hx1,hx2,vM,tz,pd1,pd2,px1,px2,aM hm,aM kM,aM hn,aM yU]
 ·rw[cg NK]at zY;simp only[↓aN,aO,↓aQ,aJ,↓reduceIte,aa,ah,ae,Tryz.f102,ai,hl,g0,g1,zY,uk,hx1,hx2,vM,tz,pd1,pd2,px1,px2,aM hm,aM kM,aM hn,aM yU]
def wP(s:List UInt8):List UInt8:=s.takeWhile (fun b=>!(b==47))
def kS(s:List UInt8):List UInt8:=(s.dropWhile (fun b=>!(b==47))).drop 1
def sy(s:List UInt8):Bool:=s.any (fun b=>b==47)
theorem SU:∀(s:List UInt8),(Lib.indexByte s 47= -1/\wP s=s/\kS s=[]/\sy s=false)∨(∃o:Nat,Lib.indexByte s 47=(o:Int)/\o<s.length/\wP s=s.take o/\kS s=s.drop (o+1)/\sy s=true)
 |[]=>.inl ⟨rfl,rfl,rfl,rfl⟩
 |b::s=>by
  by_cases hb:(b==47)=true
  ·refine .inr ⟨0,?_,by simp,?_,?_,?_⟩
   ·rw[Lib.indexByte,if_pos hb];rfl
   ·simp[wP,hb]
   ·simp[kS,hb]
   ·simp[sy,hb]
  ·have OI:(b==47)=false:=by simpa using hb
   rcases SU s with⟨h1,h2,h3,h4⟩|⟨o,h1,h2,h3,h4,h5⟩
   ·refine .inl ⟨?_,?_,?_,?_⟩
    ·rw[Lib.indexByte,if_neg hb,h1];rfl
    ·unfold wP at h2⊢;rw[aSX,if_pos (by rw[OI];rfl),h2]
    ·unfold kS at h3⊢;rw[aSA,if_pos (by rw[OI];rfl),h3]
    ·unfold sy at h4⊢;rw[List.any_cons,OI,h4];rfl
   ·refine .inr ⟨o+1,?_,by simp only[aMm];omega,?_,?_,?_⟩
    ·rw[Lib.indexByte,if_neg hb,h1,if_neg (by simp only[beq_iff_eq];omega)];simp
    ·unfold wP at h3⊢;rw[aSX,if_pos (by rw[OI];rfl),h3,aPl]
    ·unfold kS at h4⊢;rw[aSA,if_pos (by rw[OI];rfl),h4,aPm]
    ·unfold sy at h5⊢;rw[List.any_cons,h5,Bool.or_true]
theorem Yu{s:List UInt8}:aP E 238 [.str s,.int .u8 47]=some (.int .i64 (Lib.indexByte s 47)):=by refine o7 ?_ amC;rw[C.Uw _ _ (by decide)];rw[show jC Bz 238 [.str s,.int .u8 47]=SJ [.str s,.int .u8 47]by simp[jC,Bz]];rfl
theorem UZ{s:List UInt8}:aP E 212 [.str s,.int .u8 47]=some (.int .i64 (Lib.indexByte s 47)):=by refine dX ?_;have h1:=Yu (E:=E) (s:=s);refine tp aq6 ?_;intro ts hl g0 g1;unfold al2;simp only[↓aN,aO,↓aQ,aJ,aa,ae,Tryz.f212,hl,g0,g1,h1]
theorem MZ:(((47:UInt8).toNat:Nat):Int)=47:=by decide
theorem PO{s:List UInt8}:aP E 183 [.str s,.str [47]]=some (.int .i64 (Lib.indexByte s 47)):=by
 refine dX ?_;have h1:=UZ (E:=E) (s:=s);have Dz:pZ E 9 (.str [47]) (.int .i64 0)=some (.int .u8 47):=by
  have:=Xg (E:=E) (t:=9) (s:=[47]) (i:=0) (c:=47) st9 rfl (k:=.i64)
  rw[MZ]at this;exact this
 have n8:((([47]:List UInt8).length:Int))=1:=rfl;refine tp anK ?_;intro ts hl g0 g1;unfold aoc;by_cases hs:s=[47]
 ·have he:(([47]:List UInt8)==s)=true:=by rw[hs];rfl
  simp only[↓aN,aO,aJ,aa,ae,Tryz.f183,aB,aD,hl,g0,g1,mz,he];rw[hs];rfl
 ·have he:(([47]:List UInt8)==s)=false:=by rw[beq_eq_false_iff_ne];exact fun e=>hs e.symm
  simp only[↓aN,aO,↓aQ,aJ,aa,ae,Tryz.f183,aB,aD,hl,g0,g1,mz,he,h1,Dz]
theorem Ui{s:List UInt8}(hs:s.length<=4611686018427387904):aP E 147 [.str s,.str [47]]=some (.tuple [.str (wP s),.str (kS s),.bool (sy s)]):=by
 refine dX ?_;have h1:=PO (E:=E) (s:=s);refine tp arD ?_;intro ts hl g0 g1;unfold alz;rcases SU s with⟨e1,e2,e3,e4⟩|⟨o,e1,e2,e3,e4,e5⟩
 ·rw[e1]at h1;rw[e2,e3,e4];simp only[↓aN,aO,↓aQ,aJ,aa,ae,Tryz.f147,au,aB,hl,g0,g1,h1]
 ·rw[e1]at h1;rw[e3,e4,e5];have dc:decide ((o:Int)≥0)=true:=b8 (by omega);have w1:aX .i64 ((o:Int)+1)=((o+1:Nat):Int):=by rw[wrap_i64 (by omega) (by omega)];omega
  have b1:=RQ (n:=s.length) (k:=o) (i:=.i64) (by omega);have b2:=KV (n:=s.length) (k:=o+1) (i:=.i64) (by omega);have ht:List.take (s.length-(o+1)) (s.drop (o+1))=s.drop (o+1):=aPc (by simp);simp only[↓aN,aO,↓aQ,aJ,aa,ah,ae,Tryz.f147,hl,g0,g1,h1,w1,b1,b2,ht,Nat.sub_zero]
theorem V2{s:List UInt8}(hs:s.length<=4611686018427387904):aP E 115 [.str s,.str [47]]=some (.tuple [.str (wP s),.str (kS s),.bool (sy s)]):=by refine dX ?_;have h1:=Ui (E:=E) hs;refine tp anN ?_;intro ts hl g0 g1;unfold aqJ;simp only[↓aN,aO,↓aQ,aJ,aa,ae,Tryz.f115,hl,g0,g1,h1]
def Z3:List UInt8:=[48,49,50,51,52,53,54,55,56,57]
theorem FA{b:UInt8}:Z3.contains b=lJ b:=by
 have h:∀n:Fin 256,Z3.contains (UInt8.ofNat n.val)=lJ (UInt8.ofNat n.val):=by decide+kernel
 have:=h ⟨b.toNat,b.toNat_lt⟩
 rwa[UInt8.ofNat_toNat]at this
theorem xq{p:UInt8->Bool}:∀{l:List UInt8},l.dropWhile p=[]↔∀b∈l,p b=true
 |[]=>by simp
 |b::l=>by
  rw[aSA];by_cases h:p b=true
  ·rw[if_pos h,xq];simp[h]
  ·rw[if_neg h];simp[h]
theorem wa{p:UInt8->Bool}{b:UInt8}:∀{l:List UInt8},b∈l.dropWhile p->b∈l
 |[],h=>by simp at h
 |c::l,h=>by
  rw[aSA]at h;by_cases hc:p c=true
  ·rw[if_pos hc]at h;exact List.mem_cons_of_mem _ (wa h)
  ·rw[if_neg hc]at h;exact h
theorem yk{s cs:List UInt8}:(Lib.trimS s cs=[])↔∀b∈s,cs.contains b=true:=by
 unfold Lib.trimS Lib.trimLeftS Lib.trimRightS;rw[xq];constructor
 ·intro h b hb;have h1:s.reverse=s.reverse.takeWhile (cs.contains ·)++s.reverse.dropWhile (cs.contains ·):=(List.takeWhile_append_dropWhile).symm;have h2:b∈s.reverse:=aSE.2 hb;rw[h1]at h2;rcases List.mem_append.1 h2 with h3|h3
  ·exact aLN.1 (List.all_takeWhile (l:=s.reverse) (p:=(cs.contains ·))) b h3
  ·exact h b (aSE.2 h3)
 ·intro h b hb;have h1:=aSE.1 hb;exact h b (aSE.1 (wa h1))
theorem Ut{s:List UInt8}:(Lib.trimS s Z3==[])=s.all lJ:=by
 by_cases h:∀b∈s,lJ b=true
 ·rw[aLN.2 h,beq_iff_eq,yk];intro b hb;rw[FA];exact h b hb
 ·have h1:s.all lJ=false:=by
   rw[aS0];exact fun e=>h (aLN.1 e)
  rw[h1,beq_eq_false_iff_ne];intro e;refine h fun b hb=>?_
  rw[<-FA];exact yk.1 e b hb
theorem ars{s:List UInt8}:(Lib.trimS s [48]==[])=s.all (·==48):=by
 by_cases h:∀b∈s,(b==48)=true
 ·rw[aLN.2 h,beq_iff_eq,yk];intro b hb
  have:=h b hb
  simpa using this
 ·have h1:s.all (·==48)=false:=by
   rw[aS0];exact fun e=>h (aLN.1 e)
  rw[h1,beq_eq_false_iff_ne];intro e;refine h fun b hb=>?_
  have:=yk.1 e b hb
  simpa using this
def Ew(s:List UInt8):Bool:=!(s==[])&&s.all lJ
theorem Dh{s:List UInt8}(hs:s.length<=4611686018427387904):aP E 116 [.str s]=some (.bool (Ew s)):=by
 refine dX ?_;have h1:=yZ (E:=E) (s:=s) (c:=Z3) (by decide) (by decide) (by omega);have h2:=Ut (s:=s);unfold Z3 at h1;refine nY amf ?_;intro ts hl g0;unfold apd Ew;by_cases he:s=[]
 ·have e1:(s==([]:List UInt8))=true:=by rw[he];rfl
  rw[e1];simp only[↓aN,aO,aa,ae,Tryz.f116,hl,g0,dV,e1]
 ·have e1:(s==([]:List UInt8))=false:=beq_eq_false_iff_ne.2 he;rw[e1];simp only[↓aN,aO,↓aQ,aJ,aa,ae,Tryz.f116,hl,g0,mz,dV,e1,h1];rw[<-h2];rfl
def Gc(s:List UInt8):Bool:=Lib.hasPrefix (wP s) [45]
def oD(s:List UInt8):List UInt8:=Lib.trimPrefix (wP s) [45]
def pN(s:List UInt8):Int:=if Gc s=true then-(dv 0 (oD s):Int)else dv 0 (oD s)
def rI(s:List UInt8):Nat:=dv 0 (kS s)
def fh(s:List UInt8):Rat:=if sy s=true then aSu (pN s) (rI s)else(pN s:Rat)
def cN(L:Int)(s:List UInt8):Int:=
 if(s.length:Int)>L then 5 else
 if Ew (oD s)=false∨(sy s=true/\Ew (kS s)=false)then 14 else
 if sy s=true/\(kS s).all (·==48)=true then 19 else
 if sr (Gc s) (oD s)=true then 3 else
 if sy s=false then 0 else
 if sr false (kS s)=true∨rI s=1∨aSw (pN s) (rI s)≠1 then 3 else 0
theorem ahv(n:Nat):10^n<=2^(4*n):=by rw[Nat.pow_mul];exact aRn (by decide) _
theorem El{l:List UInt8}(h:∀b∈l,lJ b=true){n:Nat}(hn:l.length<=n):dv 0 l<2^(4*n):=
 aNt (I7 h) (aNm (ahv _) (aQT (by omega) (by omega)))
theorem PZ:∀{l:List UInt8},(∀b∈l,lJ b=true)->l.all (·==48)=false->0<dv 0 l
 |[],_,h=>by simp at h
 |c::r,hd,h=>by
  rw[uC,GJ,Nat.zero_mul,aLM];have h1:=hd c (by simp);simp only[lJ,decide_eq_true_eq]at h1;by_cases hc:c.toNat=48
  ·have hc':c=48:=UInt8.toNat_inj.1 (by rw[hc];decide);rw[aN1,hc',show((48:UInt8)==48)=true by decide,aPs]at h
   have:=PZ (l:=r) (fun b hb=>hd b (by simp[hb])) h
   omega
  ·have h2:0<c.toNat-48:=by omega
   have:=aSV h2 (Nat.pow_pos (n:=r.length) (show 0<10 by omega))
   omega
theorem NF(s:List UInt8):(wP s).length<=s.length:=(List.takeWhile_sublist _).length_le
theorem Ga(s:List UInt8):(kS s).length<=s.length:=aNm (List.drop_sublist _ _).length_le (List.dropWhile_sublist _).length_le
theorem Fc(s:List UInt8):(oD s).length<=s.length:=by
 refine aNm ?_ (NF s);unfold oD Lib.trimPrefix
 split<;>simp
theorem uY{s:List UInt8}(h:Ew s=true):(∀b∈s,lJ b=true)/\s≠[]:=by unfold Ew at h;rw[Bool.and_eq_true]at h;refine⟨aLN.1 h.2,?_⟩;intro e;subst e;simp at h
theorem IH{s:List UInt8}(h:∀b∈s,lJ b=true):Lib.hasPrefix s [45]=false/\Lib.trimPrefix s [45]=s:=by
 have h1:Lib.hasPrefix s [45]=false:=by
  cases s with
  |nil=>rfl
  |cons b r=>
   have h2:=h b (by simp);have h3:(45==b)=false:=by
    rw[beq_eq_false_iff_ne];rintro rfl
    revert h2
    decide
   simp[Lib.hasPrefix,List.isPrefixOf,h3]
 exact⟨h1,by unfold Lib.trimPrefix;rw[h1];simp⟩
theorem Ir{s:List UInt8}{L:Int}(hs:s.length<=4611686018427387904)(hL:L<=65536):∃r,aP E 76 [.str s,.int .i64 L]=some (.tuple [r,.int .i64 (cN L s)])/\dA r (if cN L s=0 then fh s else 0):=by
 suffices hh:∃u,aP E 76 [.str s,.int .i64 L]=some u/\∃r,u=.tuple [r,.int .i64 (cN L s)]/\dA r (if cN L s=0 then fh s else 0)by
  obtain⟨u,h1,r,rfl,h2⟩:=hh;exact⟨r,h1,h2⟩
 have Cz:=V2 (E:=E) hs;have Hj:=Ed (E:=E) (s:=wP s) (c:=[45]);have la:=NF s;have lb:=Ga s;have ld:=Fc s;have vM:=Dh (E:=E) (s:=oD s) (by omega);have tz:=Dh (E:=E) (s:=kS s) (by omega);have htz:=yZ (E:=E) (s:=kS s) (c:=[48]) (by decide) (by decide) (by omega);have nM:=ars (s:=kS s);rw[show Lib.trimPrefix (wP s) [45]=oD s from rfl]at Hj;refine tp awr ?_;intro ts hl g0 g1;unfold c76;by_cases hlen:(s.length:Int)>L
 ·have dl:decide ((s.length:Int)>L)=true:=b8 hlen;have hc:cN L s=5:=by unfold cN;rw[if_pos hlen]
  rw[hc];simp only[↓aN,aO,↓aQ,aJ,↓reduceIte,aa,ah,ae,Tryz.f76,aF,hl,g0,g1,Cz,dl];exact⟨_,rfl,rU⟩
 have dl:decide ((s.length:Int)>L)=false:=cg hlen;have hf5:∀x,cN L s=x↔(if Ew (oD s)=false∨(sy s=true/\Ew (kS s)=false)then 14 else
  if sy s=true/\(kS s).all (·==48)=true then 19 else
  if sr (Gc s) (oD s)=true then 3 else
  if sy s=false then 0 else
  if sr false (kS s)=true∨rI s=1∨aSw (pN s) (rI s)≠1 then 3 else 0)=x:=by
  intro x;unfold cN;rw[if_neg hlen]
 by_cases ha:Ew (oD s)=false
 ·have hc:cN L s=14:=by rw[hf5,if_pos (.inl ha)]
  rw[hc];rw[ha]at vM;simp only[↓aN,aO,↓aQ,aJ,↓reduceIte,aa,ah,ae,Tryz.f76,aF,hl,g0,g1,Cz,dl,Hj,vM];exact⟨_,rfl,rU⟩
 have VQ:Ew (oD s)=true:=by simpa using ha
 rw[VQ]at vM;obtain⟨dda,nea⟩:=uY VQ;obtain⟨ra,ca,hpa,pa1,pa2⟩:=GO (E:=E) (s:=wP s) (by omega) dda nea;rw[show Lib.trimPrefix (wP s) [45]=oD s from rfl,show Lib.hasPrefix (wP s) [45]=Gc s from rfl]at pa1 pa2;have bn:(pN s).natAbs<2^(4*s.length):=by
  have:=El dda ld
  unfold pN
  split<;>omega
 cases hF:sy s with
 |false=>
  rw[hF]at Cz;cases hb:sr (Gc s) (oD s)with
  |true=>
   obtain⟨rfl,rfl⟩:=pa1 hb;have hc:cN L s=3:=by rw[hf5,if_neg (by rw[VQ,hF];simp),if_neg (by rw[hF];simp),if_pos hb]
   rw[hc];simp only[↓aN,aO,↓aQ,aJ,↓reduceIte,aa,ah,ae,Tryz.f76,aE,aF,hl,g0,g1,Cz,dl,Hj,vM,hpa];exact⟨_,rfl,rU⟩
  |false=>
   obtain⟨rfl,ia⟩:=pa2 hb;rw[show(if Gc s=true then-(dv 0 (oD s):Int)else dv 0 (oD s))=pN s from rfl]at ia;obtain⟨n1,m1,l1,rfl,s8,-,-,-⟩:=id ia;have hc:cN L s=0:=by rw[hf5,if_neg (by rw[VQ,hF];simp),if_neg (by rw[hF];simp),if_neg (by rw[hb];simp),if_pos hF]
   have hv:fh s=(pN s:Rat):=by unfold fh;rw[hF];rfl
   rw[hc,if_pos rfl,hv];simp only[↓aN,aO,↓aQ,aJ,↓reduceIte,aa,ah,ae,Tryz.f76,ai,aE,hl,g0,g1,Cz,dl,Hj,vM,hpa,aM s8,(aY s8).2];exact⟨_,rfl,Aq ia⟩
 |true=>
  rw[hF]at Cz;by_cases hB:Ew (kS s)=false
  ·have hc:cN L s=14:=by rw[hf5,if_pos (.inr ⟨hF,hB⟩)]
   rw[hc];rw[hB]at tz;simp only[↓aN,aO,↓aQ,aJ,↓reduceIte,aa,ah,ae,Tryz.f76,aF,hl,g0,g1,Cz,dl,Hj,vM,tz];exact⟨_,rfl,rU⟩
  have hB':Ew (kS s)=true:=by simpa using hB
  rw[hB']at tz;obtain⟨ddb,neb⟩:=uY hB';cases hz:(kS s).all (·==48)with
  |true=>
   have hc:cN L s=19:=by rw[hf5,if_neg (by rw[VQ,hB'];simp),if_pos ⟨hF,hz⟩]
   rw[hc];rw[hz]at nM;simp only[↓aN,aO,↓aQ,aJ,↓reduceIte,aa,ah,ae,Tryz.f76,aF,hl,g0,g1,Cz,dl,Hj,vM,tz,htz,mz,nM];exact⟨_,rfl,rU⟩
  |false=>
  rw[hz]at nM;cases hb:sr (Gc s) (oD s)with
  |true=>
   obtain⟨rfl,rfl⟩:=pa1 hb;have hc:cN L s=3:=by rw[hf5,if_neg (by rw[VQ,hB'];simp),if_neg (by rw[hz];simp),if_pos hb]
   rw[hc];simp only[↓aN,aO,↓aQ,aJ,↓reduceIte,aa,ah,ae,Tryz.f76,aE,aF,hl,g0,g1,Cz,dl,Hj,vM,tz,htz,mz,nM,hpa];exact⟨_,rfl,rU⟩
  |false=>
  obtain⟨rfl,ia⟩:=pa2 hb;rw[show(if Gc s=true then-(dv 0 (oD s):Int)else dv 0 (oD s))=pN s from rfl]at ia;obtain⟨np1,np2⟩:=IH ddb;obtain⟨rb,cb,hpb,pb1,pb2⟩:=GO (E:=E) (s:=kS s) (by omega) (by rw[np2];exact ddb) (by rw[np2];exact neb);rw[np1,np2]at pb1 pb2;have bd:rI s<2^(4*s.length):=El ddb lb;have HR:∀x,cN L s=x↔(if sr false (kS s)=true∨rI s=1∨aSw (pN s) (rI s)≠1 then(3:Int)else 0)=x:=by
   intro x;rw[hf5,if_neg (by rw[VQ,hB'];simp),if_neg (by rw[hz];simp),if_neg (by rw[hb];simp),if_neg (by rw[hF];simp)]
  obtain⟨n1,m1,l1,rfl,s8,-,-,-⟩:=id ia;cases hbb:sr false (kS s)with
  |true=>
   obtain⟨rfl,rfl⟩:=pb1 hbb;have hc:cN L s=3:=by rw[HR,if_pos (.inl hbb)]
   rw[hc];simp only[↓aN,aO,↓aQ,aJ,↓reduceIte,aa,ah,ae,Tryz.f76,aE,aF,hl,g0,g1,Cz,dl,Hj,vM,tz,htz,mz,nM,hpa,hpb,(aY s8).2];exact⟨_,rfl,rU⟩
  |false=>
  obtain⟨rfl,ib⟩:=pb2 hbb;rw[show(if false=true then-(dv 0 (kS s):Int)else dv 0 (kS s))=(rI s:Int)from rfl]at ib;obtain⟨o,Uq,oi⟩:=we (E:=E);have f1:Fit 1:=⟨1,by omega,by decide⟩;have Sa:=PZ ddb hz;rw[show dv 0 (kS s)=rI s from rfl]at Sa;have fb:Fit (rI s:Int):=fG bd (by omega);have fa:Fit (pN s):=eK bn (by omega);have vL:=kL C ib oi fb f1;obtain⟨g,hg,ig⟩:=tQ (E:=E) ia ib fa fb;have hgp:0<aSw (pN s) (rI s):=aSU.2 (.inr (by omega));have fg:Fit ((aSw (pN s) (rI s):Nat):Int):=fG (aQQ (aSz Sa (by have:=aSB (pN s) (rI s);rwa[aSv]at this)) bd) (by omega);have uk:=kL C ig oi fg f1;have po:=dD oi;have pg:=dD ig;obtain⟨n2,m2,l2,rfl,vN,-,-,-⟩:=id ib;by_cases hd:rI s=1
  ·have hc:cN L s=3:=by rw[HR,if_pos (.inr (.inl hd))]
   rw[hc];rw[hd,show((1:Nat):Int)=1 from rfl,xf]at vL;simp only[↓aN,aO,↓aQ,aJ,↓reduceIte,aa,ah,ae,Tryz.f76,aE,aF,hl,g0,g1,Cz,dl,Hj,vM,tz,htz,mz,nM,hpa,hpb,(aY s8).2,aM vN,(aY vN).2,Uq,po,vL];exact⟨_,rfl,rU⟩
  rw[AE (by omega)]at vL;by_cases EB:aSw (pN s) (rI s)=1
  ·have hc:cN L s=0:=by rw[HR,if_neg (by rw[hbb];simp[hd,EB])]
   rw[hc,if_pos rfl];rw[EB,show((1:Nat):Int)=1 from rfl,xf]at uk;have hq:dA (.agg [.bool n1,m1,.bool n2,m2]) (fh s):=by
    unfold fh;rw[hF,if_pos rfl];refine⟨n1,m1,n2,m2,_,rfl,?_,ib,.inl ?_⟩
    ·rw[aSL,aSy (by omega),aS2,aSC,EB];simpa using ia
    ·rw[aSM,if_neg (by omega),aSC,EB]
     simp
   simp only[↓aN,aO,↓aQ,aJ,↓reduceIte,aa,ah,ae,Tryz.f76,ai,aD,aE,hl,g0,g1,Cz,dl,Hj,vM,tz,htz,mz,nM,hpa,hpb,aM s8,(aY s8).2,aM vN,(aY vN).2,Uq,po,pg,vL,hg,uk];exact⟨_,rfl,hq⟩
  ·have hc:cN L s=3:=by rw[HR,if_pos (.inr (.inr EB))]
   rw[hc];rw[AE (by omega)]at uk;simp only[↓aN,aO,↓aQ,aJ,↓reduceIte,aa,ah,ae,Tryz.f76,aD,aE,aF,hl,g0,g1,Cz,dl,Hj,vM,tz,htz,mz,nM,hpa,hpb,aM s8,(aY s8).2,aM vN,(aY vN).2,Uq,po,pg,vL,hg,uk];exact⟨_,rfl,rU⟩
theorem uj:aX .i64 1=1:=by decide
theorem zZ:aX .i64 2=2:=by decide
theorem ED:aX .i64 3=3:=by decide
theorem wk4:aX .i64 4=4:=by decide
theorem wk5:aX .i64 5=5:=by decide
structure V3 where
 x:Rat
 y:Rat
 z:Rat
def eY(v:AV)(a:V3):Prop:=∃n0 m0 n1 m1 n2 m2 n3 m3 n4 m4 n5 m5,v=.agg [.bool n0,m0,.bool n1,m1,.bool n2,m2,.bool n3,m3,.bool n4,m4,.bool n5,m5]/\
 dA (.agg [.bool n0,m0,.bool n1,m1]) a.x/\dA (.agg [.bool n2,m2,.bool n3,m3]) a.y/\dA (.agg [.bool n4,m4,.bool n5,m5]) a.z
theorem aW{n m n' m'}(q:Rat)(h:dA (.agg [.bool n,m,.bool n',m']) q):aU m=true/\df m=true/\aU m'=true/\df m'=true:=by obtain⟨na,ma,nb,mb,l,l',e,-,h1,h2,-⟩:=bX h;simp only[AV.agg.injEq,List.cons.injEq,AV.bool.injEq,and_true]at e;obtain⟨-,rfl,-,rfl⟩:=e;exact⟨aM h1,(aY h1).2,aM h2,(aY h2).2⟩
theorem yh{f:Nat}(hf:bQ E f=false){fc:List AV}(hfc:bE fc=true){v w:AV}{a b c:V3}(h:eY v a)(h':eY w b)
  (hx:∀x y,dA x a.x->dA y b.x->∃r,aP E f (x::y::fc)=some r/\dA r c.x)
  (hy:∀x y,dA x a.y->dA y b.y->∃r,aP E f (x::y::fc)=some r/\dA r c.y)
  (hz:∀x y,dA x a.z->dA y b.z->∃r,aP E f (x::y::fc)=some r/\dA r c.z):
  ∃r,aP E 73 [v,w,.func f [] fc]=some r/\eY r c:=by
 obtain⟨n0,m0,n1,m1,n2,m2,n3,m3,n4,m4,n5,m5,rfl,a1,a2,a3⟩:=h;obtain⟨p0,q0,p1,q1,p2,q2,p3,q3,p4,q4,p5,q5,rfl,b1,b2,b3⟩:=h';obtain⟨r1,c1,d1⟩:=hx _ _ a1 b1;obtain⟨r2,c2,d2⟩:=hy _ _ a2 b2;obtain⟨r3,c3,d3⟩:=hz _ _ a3 b3;obtain⟨i0,j0,i1,j1,-,-,rfl,-⟩:=bX d1;obtain⟨i2,j2,i3,j3,-,-,rfl,-⟩:=bX d2;obtain⟨i4,j4,i5,j5,-,-,rfl,-⟩:=bX d3;have A1:=aW _ a1;have A2:=aW _ a2;have A3:=aW _ a3;have B1:=aW _ b1;have B2:=aW _ b2;have B3:=aW _ b3;have D1:=aW _ d1;have D2:=aW _ d2;have D3:=aW _ d3;have nN:=fun{dr st:Bool} {bl:List AV} {H:Hp} {k:AV->cE->Prop}=>gn (E:=E) (dr:=dr) (st:=st) (f:=f) (bl:=bl) (H:=H) (k:=k) hf
 refine Vy ayi ?_;intro ts hl g0 g1 g2;unfold c73;simp only[↓aN,aO,aJ,ah,ae,Tryz.f73,g0,g1];refine ew 4 ?_;simp only[↓aN,aO,aJ,↓reduceIte,aa,ah,ak,ae,an,ao,aq,ai,aA,hl,g2,A1,A2,A3,B1,B2,B3,D1,D2,D3,nN,c1,c2,c3,hfc,uj,zZ,ED];exact⟨_,_,_,_,_,_,_,_,_,_,_,_,rfl,d1,d2,d3⟩
def BV(k:Nat)(a:V3):Prop:=Bq k a.x/\Bq k a.y/\Bq k a.z
theorem BV.mono{k l:Nat}{a:V3}(h:BV k a)(hl:k<=l):BV l a:=⟨h.1.mono hl,h.2.1.mono hl,h.2.2.mono hl⟩
def CS(a b:V3):V3:=⟨a.x+b.x,a.y+b.y,a.z+b.z⟩
def KR(a:V3):V3:=⟨0-a.x,0-a.y,0-a.z⟩
def dW(k:Rat)(a:V3):V3:=⟨k*a.x,k*a.y,k*a.z⟩
def axy(a b:V3):V3:=⟨a.x*b.x,a.y*b.y,a.z*b.z⟩
def mu(a b:V3):Rat:=0+a.x*b.x+a.y*b.y+a.z*b.z
def dH(a b:V3):V3:=⟨a.y*b.z-a.z*b.y,a.z*b.x-a.x*b.z,a.x*b.y-a.y*b.x⟩
def v0:V3:=⟨0,0,0⟩
def yE(a b:V3):Int:=if uV a.x b.x≠0 then uV a.x b.x else if uV a.y b.y≠0 then uV a.y b.y else uV a.z b.z
theorem BA:Bq 1 0:=by
 refine⟨?_,?_⟩<;>decide
theorem bv0:BV 1 v0:=⟨BA,BA,BA⟩
theorem vC:eY (.agg [.bool false,.aH,.bool false,.aH,.bool false,.aH,.bool false,.aH,.bool false,.aH,.bool false,.aH]) v0:=
 ⟨_,_,_,_,_,_,_,_,_,_,_,_,rfl,rU,rU,rU⟩
theorem bM{v:AV}{a:V3}(h:eY v a):∃n0 m0 n1 m1 n2 m2 n3 m3 n4 m4 n5 m5,v=.agg [.bool n0,m0,.bool n1,m1,.bool n2,m2,.bool n3,m3,.bool n4,m4,.bool n5,m5]/\
 dA (.agg [.bool n0,m0,.bool n1,m1]) a.x/\dA (.agg [.bool n2,m2,.bool n3,m3]) a.y/\dA (.agg [.bool n4,m4,.bool n5,m5]) a.z/\
 (aU m0=true/\aU m1=true/\aU m2=true/\aU m3=true/\aU m4=true/\aU m5=true)/\(df m0=true/\df m1=true/\df m2=true/\df m3=true/\df m4=true/\df m5=true):=by
 obtain⟨n0,m0,n1,m1,n2,m2,n3,m3,n4,m4,n5,m5,e,h1,h2,h3⟩:=h;have A:=aW _ h1;have B:=aW _ h2;have D:=aW _ h3;exact⟨n0,m0,n1,m1,n2,m2,n3,m3,n4,m4,n5,m5,e,h1,h2,h3,⟨A.1,A.2.2.1,B.1,B.2.2.1,D.1,D.2.2.1⟩,⟨A.2.1,A.2.2.2,B.2.1,B.2.2.2,D.2.1,D.2.2.2⟩⟩
theorem ja{v:AV}{a:V3}(h:eY v a):aU v=true:=by obtain⟨n0,m0,n1,m1,n2,m2,n3,m3,n4,m4,n5,m5,rfl,-,-,-,⟨P0,P1,P2,P3,P4,P5⟩,-⟩:=bM h;simp[aU,bE,P0,P1,P2,P3,P4,P5]
theorem CC{v w:AV}{a b:V3}(h:eY v a)(h':eY w b){k l:Nat}(ba:BV k a)(bb:BV l b)(hk:k+l<=100000000000):∃r,aP E 85 [v,w]=some r/\eY r (CS a b):=by obtain⟨r,hr,ir⟩:=yh (E:=E) (f:=114) (fc:=[]) alv rfl h h' (c:=CS a b) (fun x y hx hy=>mj (E:=E) hx hy ba.1 bb.1 hk) (fun x y hx hy=>mj (E:=E) hx hy ba.2.1 bb.2.1 hk) (fun x y hx hy=>mj (E:=E) hx hy ba.2.2 bb.2.2 hk);obtain⟨n0,m0,n1,m1,n2,m2,n3,m3,n4,m4,n5,m5,rfl,-,-,-,P,O⟩:=bM h;obtain⟨p0,q0,p1,q1,p2,q2,p3,q3,p4,q4,p5,q5,rfl,-,-,-,P',O'⟩:=bM h';obtain⟨s0,t0,s1,t1,s2,t2,s3,t3,s4,t4,s5,t5,rfl,-,-,-,P2,O2⟩:=bM ir;refine tp ayT ?_;intro ts hl g0 g1;unfold c85;simp only[↓aN,aO,↓aQ,aJ,↓reduceIte,aa,ah,ae,Tryz.f85,hl,g0,g1,P,P',P2,O2,hr];exact ir
theorem Iq{v:AV}{a:V3}(h:eY v a){k:Nat}(ba:BV k a)(hk:k<=90000000000):∃r,aP E 69 [v]=some r/\eY r (KR a):=by obtain⟨r,hr,ir⟩:=yh (E:=E) (f:=111) (fc:=[]) asK rfl vC h (c:=KR a) (fun x y hx hy=>tR (E:=E) hx hy BA ba.1 (by omega)) (fun x y hx hy=>tR (E:=E) hx hy BA ba.2.1 (by omega)) (fun x y hx hy=>tR (E:=E) hx hy BA ba.2.2 (by omega));obtain⟨n0,m0,n1,m1,n2,m2,n3,m3,n4,m4,n5,m5,rfl,-,-,-,P,O⟩:=bM h;obtain⟨s0,t0,s1,t1,s2,t2,s3,t3,s4,t4,s5,t5,rfl,-,-,-,P2,O2⟩:=bM ir;refine nY awt ?_;intro ts hl g0;unfold c69;simp only[↓aN,aO,↓aQ,aJ,↓reduceIte,aa,ah,ae,Tryz.f69,hl,g0,P,P2,O2,hr];exact ir
theorem TS{n0 m0 n1 m1 n2 m2 n3 m3 n4 m4 n5 m5}{x y z:Rat}(hx:dA (.agg [.bool n0,m0,.bool n1,m1]) x)(hy:dA (.agg [.bool n2,m2,.bool n3,m3]) y)(hz:dA (.agg [.bool n4,m4,.bool n5,m5]) z){k:Nat}(bx:Bq k x)(TZ:Bq k y)(bz:Bq k z)(hk:k<=20000000000):
  ∃r,aP E 74 [.aK [.bool n0,m0,.bool n1,m1,.bool n2,m2,.bool n3,m3,.bool n4,m4,.bool n5,m5] 3]=some r/\dA r (0+x+y+z):=by
 obtain⟨r1,c1,d1⟩:=mj (E:=E) rU hx BA bx (by omega);have b1:=BA.add bx;obtain⟨r2,c2,d2⟩:=mj (E:=E) d1 hy b1 TZ (by omega);have b2:=b1.add TZ;obtain⟨r3,c3,d3⟩:=mj (E:=E) d2 hz b2 bz (by omega);obtain⟨i0,j0,i1,j1,-,-,rfl,-⟩:=bX d1;obtain⟨i2,j2,i3,j3,-,-,rfl,-⟩:=bX d2;obtain⟨i4,j4,i5,j5,-,-,rfl,-⟩:=bX d3;have A1:=aW _ hx;have A2:=aW _ hy;have A3:=aW _ hz;have D1:=aW _ d1;have D2:=aW _ d2;have D3:=aW _ d3;refine nY axj ?_;intro ts hl g0;unfold c74;simp only[↓aN,aO,aJ,aa,ae,Tryz.f74,hl,g0];refine ew 4 ?_;simp only[↓aN,aO,↓aQ,aJ,↓reduceIte,aa,ah,ak,ae,an,ao,aq,ai,aA,hl,A1,A2,A3,D1,D2,D3,c1,c2,c3,uj,zZ,ED];exact d3
theorem LO{m:AV}{l:List Nat}(h:fN m l):Flat m:=by
 rcases h.2 with rfl|⟨-,rfl|rfl⟩<;>exact fun _ _=>rfl
theorem Bd{n m n' m'}(q:Rat)(h:dA (.agg [.bool n,m,.bool n',m']) q):Flat m/\Flat m':=by obtain⟨na,ma,nb,mb,l,l',e,-,h1,h2,-⟩:=bX h;simp only[AV.agg.injEq,List.cons.injEq,AV.bool.injEq,and_true]at e;obtain⟨-,rfl,-,rfl⟩:=e;exact⟨LO h1,LO h2⟩
theorem XA{b:Bool}:Flat (.bool b):=fun _ _=>rfl
theorem flat_agg{H:Hp}{n:Nat}{cs:List AV}(h:∀v∈cs,Flat v):fz H (n+2) (.agg cs)=some (.agg cs,[]):=by unfold fz;simp only;rw[gf h];simp only[aLT,iP,eo]
theorem ZO{H:Hp}{n b f:Nat}{cs:List AV}{st:gu}(h:H[b]?=some (.cells st cs))(hd:st≠ .dead)(hf:∀v∈cs,Flat v):fz H (n+3) (.func f [] [.b9 b 0])=some (.func f [] [.eX cs 0],[b]):=by
 have h1:fz H (n+2) (.b9 b 0)=some (.eX cs 0,[b]):=by unfold fz;simp only[h];rw[if_neg hd,gf hf];simp only[aLT,iP,eo]
 unfold fz;simp only;unfold dP;rw[h1];unfold dP;rfl
theorem adS{H:Hp}{b f:Nat}{l1 l2 cs:List AV}{st:gu}(f1:∀v∈l1,Flat v)(f2:∀v∈l2,Flat v)(h:H[b]?=some (.cells st cs))(hd:st≠ .dead)(hf:∀v∈cs,Flat v):ow false H [.agg l1,.agg l2,.func f [] [.b9 b 0]]=some ([.agg l1,.agg l2,.func f [] [.eX cs 0]],[b]):=by rw[nQ];unfold bW;rw[show bE [AV.agg l1,.agg l2,.func f [] [.b9 b 0]]=false by simp[bE,aU]];simp only[aKT,if_false];unfold dP;rw[flat_agg f1];unfold dP;rw[flat_agg f2];unfold dP;rw[ZO h hd hf];unfold dP;rfl
theorem rK{n0 m0 n1 m1 n2 m2 n3 m3 n4 m4 n5 m5}{a:V3}(h:eY (.agg [.bool n0,m0,.bool n1,m1,.bool n2,m2,.bool n3,m3,.bool n4,m4,.bool n5,m5]) a):∀v∈[.bool n0,m0,.bool n1,m1,.bool n2,m2,.bool n3,m3,.bool n4,m4,.bool n5,m5],Flat v:=by
 obtain⟨p0,q0,p1,q1,p2,q2,p3,q3,p4,q4,p5,q5,e,h1,h2,h3⟩:=h;simp only[AV.agg.injEq,List.cons.injEq,AV.bool.injEq,and_true]at e;obtain⟨rfl,rfl,rfl,rfl,rfl,rfl,rfl,rfl,rfl,rfl,rfl,rfl⟩:=e;have A:=Bd _ h1;have B:=Bd _ h2;have D:=Bd _ h3;intro v hv;simp only[aMc,aS7,or_false]at hv;rcases hv with rfl|rfl|rfl|rfl|rfl|rfl|rfl|rfl|rfl|rfl|rfl|rfl<;>first|exact XA|exact A.1|exact A.2|exact B.1|exact B.2|exact D.1|exact D.2
theorem qX{n0 m0 n1 m1}{q:Rat}(h:dA (.agg [.bool n0,m0,.bool n1,m1]) q):∀v∈[.bool n0,m0,.bool n1,m1],Flat v:=by
 have A:=Bd _ h;intro v hv;simp only[aMc,aS7,or_false]at hv;rcases hv with rfl|rfl|rfl|rfl<;>first|exact XA|exact A.1|exact A.2
theorem wM{v w:AV}{k0 k1 k2 k3:AV}{q p:Rat}(h:dA v q)(hk:dA (.agg [k0,k1,k2,k3]) p){k l:Nat}(bq:Bq k q)(bp:Bq l p)(hb:k+l<=100000000000):∃r,aP E 110 [v,w,.eX [k0,k1,k2,k3] 0]=some r/\dA r (p*q):=by obtain⟨r,hr,ir⟩:=gQ (E:=E) hk h bp bq (by omega);obtain⟨n0,m0,n1,m1,_,_,rfl,-,-,-,-⟩:=bX h;obtain⟨i0,j0,i1,j1,_,_,e,-,-,-,-⟩:=bX hk;simp only[AV.agg.injEq,List.cons.injEq,and_true]at e;obtain⟨rfl,rfl,rfl,rfl⟩:=e;obtain⟨s0,t0,s1,t1,_,_,rfl,-,-,-,-⟩:=bX ir;have A:=aW _ h;have B:=aW _ hk;have D:=aW _ ir;have hp:fD true 4 [AV.bool i0,k1,.bool i1,k3] 0=some (.agg [.bool i0,k1,.bool i1,k3]):=rfl;refine Vy aru ?_;intro ts hl g0 g1 g2;unfold ao1;simp only[↓aN,aO,↓aQ,aJ,↓reduceIte,aa,ah,ae,Tryz.f110,hl,g0,g1,g2,hp,hr,A,B,D];exact ir
theorem kn{v w:AV}{a:V3}{p:Rat}(h:eY v a)(hk:dA w p){k l:Nat}(ba:BV k a)(bp:Bq l p)(hb:k+l<=100000000000):∃r,aP E 65 [v,w]=some r/\eY r (dW p a):=by
 obtain⟨n0,m0,n1,m1,n2,m2,n3,m3,n4,m4,n5,m5,rfl,-,-,-,P,O⟩:=bM h;obtain⟨i0,j0,i1,j1,_,_,rfl,-,-,-,-⟩:=bX hk;have B:=aW _ hk;obtain⟨r,hr,ir⟩:=yh (E:=E) (f:=110) (fc:=[.eX [.bool i0,j0,.bool i1,j1] 0]) (bS C (by kernel_rfl)) (by simp[bE,aU]) h h (c:=dW p a) (fun x y hx hy=>wM (E:=E) hx hk ba.1 bp hb) (fun x y hx hy=>wM (E:=E) hx hk ba.2.1 bp hb) (fun x y hx hy=>wM (E:=E) hx hk ba.2.2 bp hb);obtain⟨s0,t0,s1,t1,s2,t2,s3,t3,s4,t4,s5,t5,rfl,-,-,-,P2,O2⟩:=bM ir;have gg:=adS (f:=110) (b:=1) (H:=[.cells .live [.bool n0,m0,.bool n1,m1,.bool n2,m2,.bool n3,m3,.bool n4,m4,.bool n5,m5],.cells .live [.bool i0,j0,.bool i1,j1],.cells .live [.bool false,.aH,.bool false,.aH,.bool false,.aH,.bool false,.aH,.bool false,.aH,.bool false,.aH]]) (rK h) (rK h) (st:=.live) rfl (by decide) (qX hk);refine tp azQ ?_;intro ts hl g0 g1;unfold c65;cases Av:bR (.agg [.bool s0,t0,.bool s1,t1,.bool s2,t2,.bool s3,t3,.bool s4,t4,.bool s5,t5])with
 |true=>
  simp only[↓aN,aO,↓aQ,aJ,↓reduceIte,aa,ah,ae,Tryz.f65,hl,g0,g1,P,P2,O2,gg,hr,Av];exact ir
 |false=>
  simp only[↓aN,aO,↓aQ,aJ,↓reduceIte,aa,ah,ae,Tryz.f65,hl,g0,g1,P,P2,O2,gg,hr,Av];exact ir
theorem GU{E:Env}{t len n:Nat}{ag:Bool}(h:gv E t=some (len,ag,n)){H:Hp}{b:Nat}{st:gu}{cs:List AV}(hb:H[b]?=some (.cells st cs))(hd:st≠ .dead)(hl:cs.length=len*n)(h0:0<len)(h1:0<n):Ez E H t (.b9 b 0) none none=some (.aI b 0 len n len):=by
 unfold gv at h;cases hi:E.ty t with
 |none=>rw[hi]at h;cases h
 |some i=>
  rw[hi]at h;obtain⟨cV,isAgg,size,bytes,zero,eS⟩:=i;cases cV<;>first|(cases h;done)|skip
  rename_i ln e;simp only at h;cases he:E.ty e with
  |none=>rw[he]at h;cases h
  |some ei=>
   rw[he]at h;simp only[Option.some.injEq,Prod.mk.injEq]at h;obtain⟨e1,e2,e3⟩:=h;subst e1;subst e2;subst e3
   have hp:0<ln*ei.size:=aSV h0 h1;have hc:¬(st=.dead∨cs.length<0+ln*ei.size∨cs.length=0):=by
    rintro(h|h|h)
    ·exact hd h
    ·omega
    ·omega
   have uk:¬(st=.dead∨cs.length<ln*ei.size∨cs=[]):=by
    rintro(h|h|h)
    ·exact hd h
    ·omega
    ·rw[h]at hl;simp at hl;omega
   simp[Ez,hi,jQ,he,gW,hiE,loE,hb,uk];omega
theorem rP{k l:Nat}{a b:V3}(ba:BV k a)(bb:BV l b):Bq (3*(k+l)+4) (mu a b):=by have h1:=((BA.add (ba.1.mul bb.1)).add (ba.2.1.mul bb.2.1)).add (ba.2.2.mul bb.2.2);exact h1.mono (by omega)
theorem rJ{v w:AV}{a b:V3}(h:eY v a)(h':eY w b){k l:Nat}(ba:BV k a)(bb:BV l b)(hk:k+l<=10000000000):∃r,aP E 37 [v,w]=some r/\dA r (mu a b):=by
 obtain⟨r,hr,ir⟩:=yh (E:=E) (f:=67) (fc:=[]) awN rfl h h' (c:=axy a b) (fun x y hx hy=>gQ (E:=E) hx hy ba.1 bb.1 (by omega)) (fun x y hx hy=>gQ (E:=E) hx hy ba.2.1 bb.2.1 (by omega)) (fun x y hx hy=>gQ (E:=E) hx hy ba.2.2 bb.2.2 (by omega));obtain⟨n0,m0,n1,m1,n2,m2,n3,m3,n4,m4,n5,m5,rfl,-,-,-,P,O⟩:=bM h;obtain⟨p0,q0,p1,q1,p2,q2,p3,q3,p4,q4,p5,q5,rfl,-,-,-,P',O'⟩:=bM h';obtain⟨s0,t0,s1,t1,s2,t2,s3,t3,s4,t4,s5,t5,rfl,e1,e2,e3,P2,O2⟩:=bM ir;obtain⟨u,hu,iu⟩:=TS (E:=E) e1 e2 e3 (ba.1.mul bb.1) (ba.2.1.mul bb.2.1) (ba.2.2.mul bb.2.2) (by omega);obtain⟨i0,j0,i1,j1,_,_,rfl,-,-,-,-⟩:=bX iu;have D:=aW _ iu;have Vw:=rK ir;have gg:=fun(H:Hp) (hH:H[3]?=some (.cells .live [.bool s0,t0,.bool s1,t1,.bool s2,t2,.bool s3,t3,.bool s4,t4,.bool s5,t5]))=>iJ (H:=H) (b:=3) (m:=3) (s:=4) hH (by decide) rfl Vw
 have arf:=gg [.cells .live [.bool n0,m0,.bool n1,m1,.bool n2,m2,.bool n3,m3,.bool n4,m4,.bool n5,m5],.cells .live [.bool p0,q0,.bool p1,q1,.bool p2,q2,.bool p3,q3,.bool p4,q4,.bool p5,q5],.cells .live [.bool false,.aH,.bool false,.aH],.cells .live [.bool s0,t0,.bool s1,t1,.bool s2,t2,.bool s3,t3,.bool s4,t4,.bool s5,t5]] rfl;have sT:=GU (E:=E) aaf (H:=[.cells .live [.bool n0,m0,.bool n1,m1,.bool n2,m2,.bool n3,m3,.bool n4,m4,.bool n5,m5],.cells .live [.bool p0,q0,.bool p1,q1,.bool p2,q2,.bool p3,q3,.bool p4,q4,.bool p5,q5],.cells .live [.bool false,.aH,.bool false,.aH],.cells .live [.bool s0,t0,.bool s1,t1,.bool s2,t2,.bool s3,t3,.bool s4,t4,.bool s5,t5]]) (b:=3) rfl (by decide) rfl (by decide) (by decide);refine tp azK ?_;intro ts hl g0 g1;unfold c37;cases Av:bR (.agg [.bool i0,j0,.bool i1,j1])with
 |true=>
  simp only[↓aN,aO,↓aQ,aJ,↓reduceIte,aa,ah,ae,Tryz.f37,hl,g0,g1,P,P',O2,hr,sT,arf,hu,Av,D];exact iu
 |false=>
  simp only[↓aN,aO,↓aQ,aJ,↓reduceIte,aa,ah,ae,Tryz.f37,hl,g0,g1,P,P',O2,hr,sT,arf,hu,Av,D];exact iu
theorem aok{E:Env}{c:Bool}{t:Nat}:dC E c .rem t (.int .i64 1) (.int .i64 3)=some (.int .i64 1):=qH (a:=1) (b:=3) (by omega)
theorem al1{E:Env}{c:Bool}{t:Nat}:dC E c .rem t (.int .i64 2) (.int .i64 3)=some (.int .i64 2):=qH (a:=2) (b:=3) (by omega)
theorem anw{E:Env}{c:Bool}{t:Nat}:dC E c .rem t (.int .i64 3) (.int .i64 3)=some (.int .i64 0):=qH (a:=3) (b:=3) (by omega)
theorem aox{E:Env}{c:Bool}{t:Nat}:dC E c .rem t (.int .i64 4) (.int .i64 3)=some (.int .i64 1):=qH (a:=4) (b:=3) (by omega)
theorem Rj{v1 v2 v3 v4:AV}{a b c d:Rat}(h1:dA v1 a)(h2:dA v2 b)(h3:dA v3 c)(h4:dA v4 d){k l:Nat}(b1:Bq k a)(b2:Bq l b)(b3:Bq k c)(b4:Bq l d)(hk:k+l<=10000000000):
  ∃x y r,aP E 67 [v1,v2]=some x/\aP E 67 [v3,v4]=some y/\aP E 111 [x,y]=some r/\aU x=true/\aU y=true/\dA r (a*b-c*d):=by
 obtain⟨x,hx,ix⟩:=gQ (E:=E) h1 h2 b1 b2 (by omega);obtain⟨y,hy,iy⟩:=gQ (E:=E) h3 h4 b3 b4 (by omega);obtain⟨r,hr,ir⟩:=tR (E:=E) ix iy (b1.mul b2) (b3.mul b4) (by omega);exact⟨x,y,r,hx,hy,hr,jg ix,jg iy,ir⟩
theorem jG{k l:Nat}{a b:V3}(ba:BV k a)(bb:BV l b):BV (2*(k+l)+1) (dH a b):=
 ⟨((ba.2.1.mul bb.2.2).sub (ba.2.2.mul bb.2.1)).mono (by omega),((ba.2.2.mul bb.1).sub (ba.1.mul bb.2.2)).mono (by omega),((ba.1.mul bb.2.1).sub (ba.2.1.mul bb.1)).mono (by omega)⟩
theorem oJ{v w:AV}{a b:V3}(h:eY v a)(h':eY w b){k l:Nat}(ba:BV k a)(bb:BV l b)(hk:k+l<=10000000000):∃r,aP E 66 [v,w]=some r/\eY r (dH a b):=by
 obtain⟨n0,m0,n1,m1,n2,m2,n3,m3,n4,m4,n5,m5,rfl,a1,a2,a3,P,O⟩:=bM h;obtain⟨p0,q0,p1,q1,p2,q2,p3,q3,p4,q4,p5,q5,rfl,b1,b2,b3,P',O'⟩:=bM h';obtain⟨x1,y1,r1,c1,c2,c3,P1,P2,d1⟩:=Rj (E:=E) a2 b3 a3 b2 ba.2.1 bb.2.2 ba.2.2 bb.2.1 hk;obtain⟨x2,y2,r2,c4,c5,c6,P3,P4,d2⟩:=Rj (E:=E) a3 b1 a1 b3 ba.2.2 bb.1 ba.1 bb.2.2 hk;obtain⟨x3,y3,r3,c7,c8,c9,P5,P6,d3⟩:=Rj (E:=E) a1 b2 a2 b1 ba.1 bb.2.1 ba.2.1 bb.1 hk;obtain⟨i0,j0,i1,j1,_,_,rfl,-,-,-,-⟩:=bX d1;obtain⟨i2,j2,i3,j3,_,_,rfl,-,-,-,-⟩:=bX d2;obtain⟨i4,j4,i5,j5,_,_,rfl,-,-,-,-⟩:=bX d3;have D1:=aW _ d1;have D2:=aW _ d2;have D3:=aW _ d3;refine tp axa ?_;intro ts hl g0 g1;unfold c66;simp only[↓aN,aO,aJ,ah,ae,Tryz.f66,g0,g1];refine ew 4 ?_
 simp(maxSteps:=1000000)only[↓aN,aO,↓aQ,aJ,↓reduceIte,aa,ah,ak,ae,an,ao,aq,ai,aA,hl,P,P',P1,P2,P3,P4,P5,P6,D1,D2,D3,c1,c2,c3,c4,c5,c6,c7,c8,c9,uj,zZ,ED,wk4,aok,al1,anw,aox]
 exact⟨_,_,_,_,_,_,_,_,_,_,_,_,rfl,d1,d2,d3⟩
theorem o9{v w:AV}{a b:V3}(h:eY v a)(h':eY w b){k l:Nat}(ba:BV k a)(bb:BV l b)(hk:k+l<=100000000000):aP E 59 [v,w]=some (.int .i64 (yE a b)):=by
 refine dX ?_;obtain⟨n0,m0,n1,m1,n2,m2,n3,m3,n4,m4,n5,m5,rfl,a1,a2,a3,P,O⟩:=bM h;obtain⟨p0,q0,p1,q1,p2,q2,p3,q3,p4,q4,p5,q5,rfl,b1,b2,b3,P',O'⟩:=bM h';have c1:=tu (E:=E) a1 b1 ba.1 bb.1 hk;have c2:=tu (E:=E) a2 b2 ba.2.1 bb.2.1 hk;have c3:=tu (E:=E) a3 b3 ba.2.2 bb.2.2 hk;refine tp ax7 ?_;intro ts hl g0 g1;unfold c59;simp only[↓aN,aO,ae,Tryz.f59,g0,g1];refine ew 4 ?_;unfold yE;generalize uV a.x b.x=x at*;generalize uV a.y b.y=y at*;generalize uV a.z b.z=z at*;by_cases hx:x=0
 ·subst hx;by_cases hy:y=0
  ·subst hy;by_cases hz:z=0
   ·subst hz
    simp(maxSteps:=1000000)only[↓aN,aO,↓aQ,aJ,↓reduceIte,aa,ah,ak,ae,an,ao,aq,ai,aA,aE,hl,P,P',c1,c2,c3,uj,zZ,ED]
    simp
   ·have ez:(z !=0)=true:=bne_iff_ne.2 hz
    simp(maxSteps:=1000000)only[↓aN,aO,↓aQ,aJ,↓reduceIte,aa,ah,ak,ae,an,ao,aq,ai,aA,aE,hl,P,P',c1,c2,c3,uj,zZ,ez]
    simp
  ·have ey:(y !=0)=true:=bne_iff_ne.2 hy
   simp(maxSteps:=1000000)only[↓aN,aO,↓aQ,aJ,↓reduceIte,aa,ah,ak,ae,an,ao,aq,ai,aA,aE,hl,P,P',c1,c2,uj,ey,hy]
   simp
 ·have ex:(x !=0)=true:=bne_iff_ne.2 hx
  simp(maxSteps:=1000000)only[↓aN,aO,↓aQ,aJ,↓reduceIte,aa,ah,ak,ae,an,ao,aq,ai,hl,P,P',c1,ex,hx]
theorem EF{q p:Rat}:uV q p=0↔q=p:=by
 unfold uV;constructor
 ·intro h;by_cases h1:q<p
  ·rw[if_pos h1]at h;omega
  ·rw[if_neg h1]at h;by_cases h2:p<q
   ·rw[if_pos h2]at h;omega
   ·exact Rat.le_antisymm (Rat.not_lt.1 h2) (Rat.not_lt.1 h1)
 ·rintro rfl;rw[if_neg (Rat.lt_irrefl),if_neg (Rat.lt_irrefl)]
theorem J4{a b:V3}:yE a b=0↔a=b:=by
 obtain⟨a1,a2,a3⟩:=a;obtain⟨b1,b2,b3⟩:=b;unfold yE;simp only[V3.mk.injEq];constructor
 ·intro h;by_cases h1:uV a1 b1=0
  ·rw[if_neg (by simpa using h1)]at h;by_cases h2:uV a2 b2=0
   ·rw[if_neg (by simpa using h2)]at h;exact⟨EF.1 h1,EF.1 h2,EF.1 h⟩
   ·rw[if_pos h2]at h;exact absurd h h2
  ·rw[if_pos h1]at h;exact absurd h h1
 ·rintro⟨rfl,rfl,rfl⟩;have e:∀q,uV q q=0:=fun q=>EF.2 rfl
  simp[e]
instance {a b:V3}:Decidable (a=b):=decidable_of_iff _ J4
theorem NX{a b:V3}:(yE a b==0)=decide (a=b):=by
 by_cases h:a=b
 ·rw[b8 h,beq_iff_eq,J4];exact h
 ·rw[cg h,beq_eq_false_iff_ne];exact fun e=>h (J4.1 e)
theorem gH{v:AV}{a:V3}(h:eY v a){k:Nat}(ba:BV k a)(hk:k<=90000000000):aP E 28 [v]=some (.bool (decide (a=v0))):=by refine dX ?_;have h1:=o9 (E:=E) h vC ba bv0 (by omega);have h2:=NX (a:=a) (b:=v0);obtain⟨n0,m0,n1,m1,n2,m2,n3,m3,n4,m4,n5,m5,rfl,-,-,-,P,O⟩:=bM h;refine nY aws ?_;intro ts hl g0;unfold c28;simp only[↓aN,aO,↓aQ,aJ,↓reduceIte,aa,ah,ae,Tryz.f28,hl,g0,P,h1,h2]
theorem DD{v w:AV}{a b:V3}(h:eY v a)(h':eY w b){k l:Nat}(ba:BV k a)(bb:BV l b)(hk:k+l<=100000000000):aP E 36 [v,w]=some (.bool (decide (a=b))):=by refine dX ?_;have h1:=o9 (E:=E) h h' ba bb hk;have h2:=NX (a:=a) (b:=b);obtain⟨n0,m0,n1,m1,n2,m2,n3,m3,n4,m4,n5,m5,rfl,-,-,-,P,O⟩:=bM h;obtain⟨p0,q0,p1,q1,p2,q2,p3,q3,p4,q4,p5,q5,rfl,-,-,-,P',O'⟩:=bM h';refine tp au2 ?_;intro ts hl g0 g1;unfold c36;simp only[↓aN,aO,↓aQ,aJ,↓reduceIte,aa,ah,ae,Tryz.f36,hl,g0,g1,P,P',h1,h2]
theorem zx{v w:AV}{a b:V3}(h:eY v a)(h':eY w b){k l:Nat}(ba:BV k a)(bb:BV l b)(hk:k+l<=10000000000):aP E 81 [v,w]=some (.bool (decide (a≠v0/\b≠v0/\dH a b=v0))):=by
 refine dX ?_;have h1:=gH (E:=E) h ba (by omega);have h2:=gH (E:=E) h' bb (by omega);obtain⟨r,hr,ir⟩:=oJ (E:=E) h h' ba bb hk;have h3:=gH (E:=E) ir (jG ba bb) (by omega);have pr:=ja ir;obtain⟨n0,m0,n1,m1,n2,m2,n3,m3,n4,m4,n5,m5,rfl,-,-,-,P,O⟩:=bM h;obtain⟨p0,q0,p1,q1,p2,q2,p3,q3,p4,q4,p5,q5,rfl,-,-,-,P',O'⟩:=bM h';refine tp avV ?_;intro ts hl g0 g1;unfold c81;by_cases ha:a=v0
 ·rw[b8 ha]at h1;simp only[↓aN,aO,↓aQ,aJ,↓reduceIte,aa,ah,ae,Tryz.f81,hl,g0,g1,P,h1];simp[ha]
 ·rw[cg ha]at h1;by_cases hb:b=v0
  ·rw[b8 hb]at h2;simp only[↓aN,aO,↓aQ,aJ,↓reduceIte,aa,ah,ae,Tryz.f81,hl,g0,g1,P,P',h1,h2];simp[hb]
  ·rw[cg hb]at h2;simp only[↓aN,aO,↓aQ,aJ,↓reduceIte,aa,ah,ae,Tryz.f81,hl,g0,g1,P,P',pr,h1,h2,hr,h3];simp[ha,hb]
def dh(q:Rat):List UInt8:=if q.den=1 then Lib.itoa q.num else Lib.itoa q.num++[47]++Lib.itoa (q.den:Int)
theorem MR{z:Int}{k:Nat}(h:z.natAbs<2^k)(hk:0<k):(Lib.itoa z).length<=k+1:=by
 have h1:∀n:Nat,n<2^k->(Lib.decDigits n).length<=k:=by intro n hn;rw[Lib.decDigits_length];exact uI _ _ hk (aNt hn (aRn (by decide) _))
 unfold Lib.itoa
 split
 ·have:=h1 z.natAbs h
  simp only[aMm];omega
 ·have:=h1 z.toNat (by omega)
  omega
theorem pM{v:AV}{q:Rat}(h:dA v q){k:Nat}(b:Bq k q)(hk:k<=100000000000):aP E 19 [v]=some (.str (dh q)):=by
 refine dX ?_;have hw:=nk (E:=E) h b hk;obtain⟨na,ma,nb,mb,l,l',rfl,h1,hm,kM,h2⟩:=bX h;have ht:=Jd (E:=E) h1 (eK b.1 (by omega));have b1:=MR b.1 b.pos;have b2:=MR (z:=(q.den:Int)) (k:=k) (by rw[aSv];exact b.2) b.pos;refine nY axA ?_;intro ts hl g0;unfold c19 dh;by_cases hd:q.den=1
 ·rw[b8 hd]at hw;rw[if_pos hd];simp only[↓aN,aO,↓aQ,aJ,↓reduceIte,aa,ah,ae,Tryz.f19,ai,hl,g0,aM hm,aM kM,hw,ht]
 ·rw[cg hd]at hw;rw[if_neg hd];have h3:fm (.agg [.bool nb,mb]) (q.den:Int):=by
   rcases h2 with⟨_,h2⟩|h2
   ·exact absurd h2 hd
   ·exact h2
  have zy:=Jd (E:=E) h3 (fG b.2 (by omega));have a1:∀{c:Bool} {t:Nat},dC E c .add t (.str (Lib.itoa q.num)) (.str [47])=some (.str (Lib.itoa q.num++[47])):=by intro c t;refine EE ?_;simp only[aMm,aO9];omega
  have a2:∀{c:Bool} {t:Nat},dC E c .add t (.str (Lib.itoa q.num++[47])) (.str (Lib.itoa (q.den:Int)))=some (.str (Lib.itoa q.num++[47]++Lib.itoa (q.den:Int))):=by intro c t;refine EE ?_;simp only[List.length_append,aMm,aO9];omega
  simp only[↓aN,aO,↓aQ,aJ,↓reduceIte,aa,ah,ae,Tryz.f19,ai,hl,g0,aM hm,aM kM,hw,ht,zy,a1,a2]
theorem nf{v:AV}{a:V3}(h:eY v a){k:Nat}(b:BV k a)(hk:k<=100000000000):aP E 32 [v]=some (.agg [.str (dh a.x),.str (dh a.y),.str (dh a.z)]):=by
 refine dX ?_;obtain⟨n0,m0,n1,m1,n2,m2,n3,m3,n4,m4,n5,m5,rfl,a1,a2,a3,P,O⟩:=bM h;have c1:=pM (E:=E) a1 b.1 hk;have c2:=pM (E:=E) a2 b.2.1 hk;have c3:=pM (E:=E) a3 b.2.2 hk;refine nY avp ?_;intro ts hl g0;unfold c32;simp only[↓aN,aO,aJ,↓reduceIte,aa,ah,ae,Tryz.f32,hl,g0];refine ew 4 ?_
 simp(maxSteps:=1000000)only[↓aN,aO,↓aQ,aJ,↓reduceIte,aa,ah,ak,ae,an,ao,aq,ai,aA,hl,P,O,c1,c2,c3,uj,zZ,ED]
theorem mZ{s:List UInt8}(hs:s.length<=4611686018427387904):∃r,aP E 39 [.str s]=some (.tuple [r,.int .i64 (cN 65536 s)])/\dA r (if cN 65536 s=0 then fh s else 0):=by
 obtain⟨r,hr,ir⟩:=Ir (E:=E) (L:=65536) hs (by omega)
 suffices hh:∃u,aP E 39 [.str s]=some u/\u=.tuple [r,.int .i64 (cN 65536 s)]by
  obtain⟨u,h1,rfl⟩:=hh;exact⟨r,h1,ir⟩
 obtain⟨na,ma,nb,mb,l,l',rfl,h1,hm,kM,h2⟩:=bX ir;refine nY axv ?_;intro ts hl g0;unfold c39;simp only[↓aN,aO,↓aQ,aJ,↓reduceIte,aa,ah,ae,Tryz.f39,hl,g0,hr,aM hm,aM kM,(aY hm).2,(aY kM).2]
theorem Mz{s:List UInt8}(hs:s.length<=4611686018427387904):∃r,aP E 86 [.str s]=some (.tuple [r,.int .i64 (cN 400 s)])/\dA r (if cN 400 s=0 then fh s else 0):=by
 obtain⟨r,hr,ir⟩:=Ir (E:=E) (L:=400) hs (by omega)
 suffices hh:∃u,aP E 86 [.str s]=some u/\u=.tuple [r,.int .i64 (cN 400 s)]by
  obtain⟨u,h1,rfl⟩:=hh;exact⟨r,h1,ir⟩
 obtain⟨na,ma,nb,mb,l,l',rfl,h1,hm,kM,h2⟩:=bX ir;refine nY aAk ?_;intro ts hl g0;unfold c86;simp only[↓aN,aO,↓aQ,aJ,↓reduceIte,aa,ah,ae,Tryz.f86,hl,g0,hr,aM hm,aM kM,(aY hm).2,(aY kM).2]
def kQ(L:Int)(s0 s1 s2:List UInt8):Int:=if cN L s0≠0 then cN L s0 else if cN L s1≠0 then cN L s1 else cN L s2
def cT(L:Int)(s0 s1 s2:List UInt8):V3:=if kQ L s0 s1 s2=0 then⟨fh s0,fh s1,fh s2⟩else v0
theorem Gz{f:Nat}{L:Int}(hf:bQ E f=false){s0 s1 s2:List UInt8}(h0:s0.length<=4611686018427387904)(h1:s1.length<=4611686018427387904)(h2:s2.length<=4611686018427387904)
  (hr:∀s:List UInt8,s.length<=4611686018427387904->∃r,aP E f [.str s]=some (.tuple [r,.int .i64 (cN L s)])/\dA r (if cN L s=0 then fh s else 0)):
  ∃r,aP E 72 [.agg [.str s0,.str s1,.str s2],.func f [] []]=some (.tuple [r,.int .i64 (kQ L s0 s1 s2)])/\eY r (cT L s0 s1 s2):=by
 suffices hh:∃u,aP E 72 [.agg [.str s0,.str s1,.str s2],.func f [] []]=some u/\∃r,u=.tuple [r,.int .i64 (kQ L s0 s1 s2)]/\eY r (cT L s0 s1 s2)by
  obtain⟨u,h1,r,rfl,h2⟩:=hh;exact⟨r,h1,h2⟩
 obtain⟨r1,c1,d1⟩:=hr s0 h0;obtain⟨r2,c2,d2⟩:=hr s1 h1;obtain⟨r3,c3,d3⟩:=hr s2 h2;obtain⟨i0,j0,i1,j1,_,_,rfl,-,-,-,-⟩:=bX d1;obtain⟨i2,j2,i3,j3,_,_,rfl,-,-,-,-⟩:=bX d2;obtain⟨i4,j4,i5,j5,_,_,rfl,-,-,-,-⟩:=bX d3;have D1:=aW _ d1;have D2:=aW _ d2;have D3:=aW _ d3;have nN:=fun{dr st:Bool} {bl:List AV} {H:Hp} {k:AV->cE->Prop}=>gn (E:=E) (dr:=dr) (st:=st) (f:=f) (bl:=bl) (H:=H) (k:=k) hf
 refine tp auR ?_;intro ts hl g0 g1;unfold c72 cT kQ;generalize cN L s0=e0 at*;generalize cN L s1=e1 at*;generalize cN L s2=e2 at*;simp only[↓aN,aO,aJ,↓reduceIte,aa,ah,ae,Tryz.f72,hl,g0];refine ew 4 ?_;by_cases z0:e0=0
 ·subst z0;by_cases z1:e1=0
  ·subst z1;by_cases z2:e2=0
   ·subst z2
    simp(maxSteps:=1000000)only[↓aN,aO,aJ,↓reduceIte,aa,ah,ak,ae,an,ao,aq,ai,aA,aE,hl,g1,D1,D2,D3,nN,c1,c2,c3,uj,zZ,ED]
    refine⟨_,rfl,?_⟩;simp only[not_true_eq_false,if_false,if_true]at d1 d2 d3⊢;exact⟨_,_,_,_,_,_,_,_,_,_,_,_,rfl,d1,d2,d3⟩
   ·have ez:(e2 !=0)=true:=bne_iff_ne.2 z2
    simp(maxSteps:=1000000)only[↓aN,aO,aJ,↓reduceIte,aa,ah,ak,ae,an,ao,aq,ai,aA,aE,hl,g1,D1,D2,D3,nN,c1,c2,c3,uj,zZ,ez]
    refine⟨_,rfl,?_⟩;simp only[not_true_eq_false,if_false,z2];exact vC
  ·have ey:(e1 !=0)=true:=bne_iff_ne.2 z1
   simp(maxSteps:=1000000)only[↓aN,aO,aJ,↓reduceIte,aa,ah,ak,ae,an,ao,aq,ai,aA,aE,hl,g1,D1,D2,nN,c1,c2,uj,ey]
   refine⟨_,by simp[z1];rfl,?_⟩;simp only[not_true_eq_false,if_false,z1,not_false_eq_true,if_true];exact vC
 ·have ex:(e0 !=0)=true:=bne_iff_ne.2 z0
  simp(maxSteps:=1000000)only[↓aN,aO,aJ,↓reduceIte,aa,ah,ae,an,ao,aq,hl,g1,D1,nN,c1,ex]
  refine⟨_,by simp[z0];rfl,?_⟩;simp only[if_false,z0,not_false_eq_true,if_true];exact vC
theorem cw{s0 s1 s2:List UInt8}(h0:s0.length<=4611686018427387904)(h1:s1.length<=4611686018427387904)(h2:s2.length<=4611686018427387904):
  ∃r,aP E 35 [.agg [.str s0,.str s1,.str s2]]=some (.tuple [r,.int .i64 (kQ 65536 s0 s1 s2)])/\eY r (cT 65536 s0 s1 s2):=by
 obtain⟨r,hr,ir⟩:=Gz (E:=E) (f:=39) (L:=65536) (bS C (by kernel_rfl)) h0 h1 h2 (fun s hs=>mZ (E:=E) hs)
 suffices hh:∃u,aP E 35 [.agg [.str s0,.str s1,.str s2]]=some u/\u=.tuple [r,.int .i64 (kQ 65536 s0 s1 s2)]by
  obtain⟨u,h1,rfl⟩:=hh;exact⟨r,h1,ir⟩
 obtain⟨n0,m0,n1,m1,n2,m2,n3,m3,n4,m4,n5,m5,rfl,-,-,-,P,O⟩:=bM ir;refine nY auW ?_;intro ts hl g0;unfold c35;simp only[↓aN,aO,↓aQ,aJ,↓reduceIte,aa,ah,ae,Tryz.f35,hl,g0,hr,P,O]
theorem DN{s0 s1 s2:List UInt8}(h0:s0.length<=4611686018427387904)(h1:s1.length<=4611686018427387904)(h2:s2.length<=4611686018427387904):
  ∃r,aP E 48 [.agg [.str s0,.str s1,.str s2]]=some (.tuple [r,.int .i64 (kQ 400 s0 s1 s2)])/\eY r (cT 400 s0 s1 s2):=by
 obtain⟨r,hr,ir⟩:=Gz (E:=E) (f:=86) (L:=400) (bS C (by kernel_rfl)) h0 h1 h2 (fun s hs=>Mz (E:=E) hs)
 suffices hh:∃u,aP E 48 [.agg [.str s0,.str s1,.str s2]]=some u/\u=.tuple [r,.int .i64 (kQ 400 s0 s1 s2)]by
  obtain⟨u,h1,rfl⟩:=hh;exact⟨r,h1,ir⟩
 obtain⟨n0,m0,n1,m1,n2,m2,n3,m3,n4,m4,n5,m5,rfl,-,-,-,P,O⟩:=bM ir;refine nY az5 ?_;intro ts hl g0;unfold c48;simp only[↓aN,aO,↓aQ,aJ,↓reduceIte,aa,ah,ae,Tryz.f48,hl,g0,hr,P,O]
theorem tI{x y z:Int}(hx: -9223372036854775808<=x)(hx':x<9223372036854775808)(hy: -9223372036854775808<=y)(hy':y<9223372036854775808)(hz: -9223372036854775808<=z)(hz':z<9223372036854775808):
  ∃r,aP E 68 [.agg [.int .i64 x,.int .i64 y,.int .i64 z]]=some r/\eY r ⟨x,y,z⟩:=by
 obtain⟨r1,c1,d1⟩:=kF (E:=E) hx hx';obtain⟨r2,c2,d2⟩:=kF (E:=E) hy hy';obtain⟨r3,c3,d3⟩:=kF (E:=E) hz hz';obtain⟨i0,j0,i1,j1,_,_,rfl,-,-,-,-⟩:=bX d1;obtain⟨i2,j2,i3,j3,_,_,rfl,-,-,-,-⟩:=bX d2;obtain⟨i4,j4,i5,j5,_,_,rfl,-,-,-,-⟩:=bX d3;have D1:=aW _ d1;have D2:=aW _ d2;have D3:=aW _ d3;refine nY awy ?_;intro ts hl g0;unfold c68;simp only[↓aN,aO,aJ,↓reduceIte,aa,ah,ae,Tryz.f68,hl,g0];refine ew 4 ?_
 simp(maxSteps:=1000000)only[↓aN,aO,↓aQ,aJ,↓reduceIte,aa,ah,ak,ae,an,ao,aq,ai,aA,hl,D1,D2,D3,c1,c2,c3,uj,zZ,ED]
 exact⟨_,_,_,_,_,_,_,_,_,_,_,_,rfl,d1,d2,d3⟩
theorem xL{v w:AV}{a b:Int}(h:fm v a)(k:fm w b)(fa:Fit a)(fb:Fit b)(hb:b≠0):
  ∃r,aP E 107 [v,w]=some (.tuple [r,.int .i64 0])/\dA r (aSu a b):=by
 obtain⟨r,hr,ir⟩:=qu (E:=E) h k fa fb hb
 suffices hh:∃u,aP E 107 [v,w]=some u/\u=.tuple [r,.int .i64 0]by
  obtain⟨u,h1,rfl⟩:=hh;exact⟨r,h1,ir⟩
 have mE:=jP C k;have OF:(yX b==0)=false:=by
  unfold yX;rw[if_neg hb]
  split<;>rfl
 obtain⟨na,m,l,rfl,hm,-,-,-⟩:=id h;obtain⟨nb,m',l',rfl,kM,-,-,-⟩:=id k;obtain⟨i0,j0,i1,j1,_,_,rfl,-,-,-,-⟩:=bX ir;have D:=aW _ ir;refine tp asj ?_;intro ts hl g0 g1;unfold arP;simp only[↓aN,aO,↓aQ,aJ,↓reduceIte,aa,ah,ae,Tryz.f107,hl,g0,g1,mE,OF,hr,aM hm,aM kM,D]
def lc(a b:Nat):Nat:=a/aSG a b*b
theorem FN{a b:Nat}(ha:0<a)(hb:0<b):0<lc a b:=aSV (Nat.div_pos (aSz ha (aSF _ _)) (aSS _ ha)) hb
theorem Bk{a b k l:Nat}(ha:a<2^k)(hb:b<2^l):lc a b<2^(k+l):=by unfold lc;rw[Nat.pow_add];exact Nat.mul_lt_mul'' (aQQ (aQ9 _ _) ha) hb
theorem B7{n:Bool}{m:AV}{D:Nat}{x:AV}{q:Rat}(hD:fm (.agg [.bool n,m]) (D:Int))(hx:dA x q){k l:Nat}(b1:D<2^k)(b2:Bq l q)(hD0:0<D)(hk:k+l<=100000000000):
  ∃d g nq mq nr mr nm mm,aP E 105 [x]=some d/\aP E 104 [.agg [.bool n,m],d]=some g/\aP E 103 [.agg [.bool n,m],g]=some (.tuple [.agg [.bool nq,mq],.agg [.bool nr,mr],.int .i64 0])/\aP E 106 [.agg [.bool nq,mq],d]=some (.agg [.bool nm,mm])/\
  aU d=true/\aU g=true/\(aU mq=true/\df mq=true)/\(aU mr=true/\df mr=true)/\(aU mm=true/\df mm=true)/\fm (.agg [.bool nm,mm]) ((lc D q.den:Nat):Int):=by
 have Sa:=jA q;obtain⟨d,hd,BB⟩:=mT (E:=E) hx;have f1:=fG b1 (by omega);have f2:=fG b2.2 (by omega);obtain⟨g,hg,ig⟩:=tQ (E:=E) hD BB f1 f2;rw[Int.gcd_natCast_natCast]at ig;have hgp:0<aSG D q.den:=aSS _ hD0;have fg:Fit ((aSG D q.den:Nat):Int):=fG (aQQ (aSz hD0 (aSF _ _)) b1) (by omega);obtain⟨y,r,Sv,iy,ir⟩:=nK (E:=E) hD ig f1 fg (by omega) (Int.natCast_dvd_natCast.2 (aSF _ _));rw[<-aSQ]at iy;obtain⟨z,hz,iz⟩:=lT C iy BB (fG (aQQ (aQ9 _ _) b1) (by omega)) f2;rw[<-Int.natCast_mul]at iz;have pd:=dD BB;have pg:=dD ig;obtain⟨nq,mq,lq,rfl,hmq,-,-,-⟩:=id iy;obtain⟨nr,mr,lr,rfl,hmr,-,-,-⟩:=id ir;obtain⟨nm,mm,lm,rfl,WZ,-,-,-⟩:=id iz;exact⟨d,g,nq,mq,nr,mr,nm,mm,hd,hg,Sv,hz,pd,pg,⟨aM hmq,(aY hmq).2⟩,⟨aM hmr,(aY hmr).2⟩,⟨aM WZ,(aY WZ).2⟩,iz⟩
theorem Aj{n:Bool}{m:AV}{D:Nat}{x:AV}{q:Rat}(hD:fm (.agg [.bool n,m]) (D:Int))(hx:dA x q){k l:Nat}(b1:D<2^k)(b2:Bq l q)(hk:k+l<=100000000000):
  ∃d nm mm,aP E 108 [x]=some d/\aP E 104 [.agg [.bool n,m],d]=some (.agg [.bool nm,mm])/\aU d=true/\(aU mm=true/\df mm=true)/\fm (.agg [.bool nm,mm]) ((aSG D q.num.natAbs:Nat):Int):=by
 obtain⟨d,hd,BB⟩:=WY (E:=E) hx;obtain⟨g,hg,ig⟩:=tQ (E:=E) hD BB (fG b1 (by omega)) (eK b2.1 (by omega));have pd:=dD BB;obtain⟨nm,mm,lm,rfl,WZ,-,-,-⟩:=id ig;exact⟨d,nm,mm,hd,hg,pd,⟨aM WZ,(aY WZ).2⟩,ig⟩
def pD(a:V3):Nat:=lc (lc (lc 1 a.x.den) a.y.den) a.z.den
def pW(a:V3):V3:=dW (pD a:Rat) a
def pG(a:V3):Nat:=aSG (aSG (aSG 0 (pW a).x.num.natAbs) (pW a).y.num.natAbs) (pW a).z.num.natAbs
def sA(a:V3):V3:=dW (aSu 1 (pG a)) (pW a)
theorem BV.scale{k l:Nat}{q:Rat}{a:V3}(h:Bq k q)(ha:BV l a):BV (k+l) (dW q a):=⟨h.mul ha.1,h.mul ha.2.1,h.mul ha.2.2⟩
theorem RY{k:Nat}{a:V3}(h:BV k a):pD a<2^(3*k+1):=by have h1:=Bk (Bk (Bk (show 1<2^1 by decide) h.1.2) h.2.1.2) h.2.2.2;exact kZ h1 (by omega)
theorem WQ(a:V3):0<pD a:=FN (FN (FN (by omega) (jA _)) (jA _)) (jA _)
theorem KY{k:Nat}{a:V3}(h:BV k a):BV (4*k+1) (pW a):=by have h1:Bq (3*k+1) (pD a:Rat):=Bq.int (z:=(pD a:Int)) (by rw[aSv];exact RY h) (by omega);exact(BV.scale h1 h).mono (by omega)
theorem aoz{a:V3}(h:a≠v0):¬((pW a).x.num=0/\(pW a).y.num=0/\(pW a).z.num=0):=by
 rintro⟨h1,h2,h3⟩;have hd:(pD a:Rat)≠0:=by
  have:=WQ a
  intro e
  have:=Rat.natCast_inj.1 (show((pD a:Nat):Rat)=((0:Nat):Rat)from e)
  omega
 have e:∀q:Rat,((pD a:Rat)*q).num=0->q=0:=by
  intro q hq;rcases Rat.mul_eq_zero.1 (aSJ.1 hq)with h|h
  ·exact absurd h hd
  ·exact h
 refine h ?_;obtain⟨x,y,z⟩:=a;simp only[v0,V3.mk.injEq];exact⟨e x h1,e y h2,e z h3⟩
theorem PV{a:V3}(h:a≠v0):0<pG a:=by
 refine aQ1 fun e=>aoz h ?_
 unfold pG at e;have e1:=aSK.1 e;have e2:=aSK.1 e1.1;have e3:=aSK.1 e2.1;exact⟨aSO.1 e3.2,aSO.1 e2.2,aSO.1 e1.2⟩
theorem DL(z:Int):aSu z 1=(z:Rat):=by
 have:=aSx (z:Rat)
 rw[aSH,aSI]at this;exact this
theorem xp{a b k:Nat}(ha:a<2^k)(hb:b<2^k):aSG a b<2^k:=by
 by_cases h:a=0
 ·subst h;rw[aS1];exact hb
 ·exact aQQ (aSz (aQ1 h) (aSF _ _)) ha
theorem K5{k:Nat}{a:V3}(h:BV k a):pG a<2^(4*k+1):=by have b:=KY h;exact xp (xp (xp (Nat.pow_pos (by omega)) b.1.1) b.2.1.1) b.2.2.1
theorem CO{k:Nat}{a:V3}(h:BV k a)(dY:a≠v0):BV (8*k+2) (sA a):=by have h1:Bq (4*k+1) (aSu 1 (pG a)):=Bq.divInt (by have:=PV dY;omega) (by have:=h.1.pos;exact kZ (show 1<2^1 by decide) (by omega)) (by rw[aSv];exact K5 h);exact(BV.scale h1 (KY h)).mono (by omega)
theorem wU{v:AV}{a:V3}(h:eY v a){k:Nat}(ba:BV k a)(hk:k<=1000000000)(dY:a≠v0):
  ∃r,aP E 63 [v]=some (.tuple [r,.int .i64 0])/\eY r (sA a):=by
 suffices hh:∃u,aP E 63 [v]=some u/\∃r,u=.tuple [r,.int .i64 0]/\eY r (sA a)by
  obtain⟨u,h1,r,rfl,h2⟩:=hh;exact⟨r,h1,h2⟩
 have hz:=gH (E:=E) h ba (by omega);rw[cg dY]at hz;obtain⟨o,ho,io⟩:=xM C (n:=1) (by omega) (by omega);have po:=dD io;obtain⟨no,mo,lo,rfl,xJ,-,-,-⟩:=id io;have Mo:aU mo=true/\df mo=true:=⟨aM xJ,(aY xJ).2⟩;obtain⟨n0,m0,n1,m1,n2,m2,n3,m3,n4,m4,n5,m5,rfl,a1,a2,a3,P,O⟩:=bM h;have b0:1<2^1:=by decide
 have b1:=Bk b0 ba.1.2;have b2:=Bk b1 ba.2.1.2;have p0:0<1:=by omega
 have p1:=FN p0 (jA a.x);have p2:=FN p1 (jA a.y);obtain⟨d1,g1,nq1,mq1,nr1,mr1,nm1,mm1,e11,e12,e13,e14,u11,u12,u13,u14,u15,i1⟩:=B7 (E:=E) (D:=1) io a1 b0 ba.1 p0 (by omega);obtain⟨d2,g2,nq2,mq2,nr2,mr2,nm2,mm2,e21,e22,e23,e24,u21,u22,u23,u24,u25,i2⟩:=B7 (E:=E) i1 a2 b1 ba.2.1 p1 (by omega);obtain⟨d3,g3,nq3,mq3,nr3,mr3,nm3,mm3,e31,e32,e33,e34,u31,u32,u33,u34,u35,i3⟩:=B7 (E:=E) i2 a3 b2 ba.2.2 p2 (by omega);have bD:=RY ba;obtain⟨w,hw,iw⟩:=xL (E:=E) i3 io (fG bD (by omega)) ⟨1,by omega,by decide⟩ (by omega);rw[show aSu ((lc (lc (lc 1 a.x.den) a.y.den) a.z.den:Nat):Int) 1=(pD a:Rat)from DL _]at iw;have bw:Bq (3*k+1) (pD a:Rat):=Bq.int (z:=(pD a:Int)) (by rw[aSv];exact bD) (by omega);obtain⟨s,hs,is⟩:=kn (E:=E) h iw ba bw (by omega);have bs:=KY ba;obtain⟨i0,j0,i1',j1,_,_,rfl,-,-,-,-⟩:=bX iw;have W:=aW _ iw;obtain⟨s0,t0,s1,t1,s2,t2,s3,t3,s4,t4,s5,t5,rfl,x1,x2,x3,Q,S'⟩:=bM is;have aDO:=Wh;obtain⟨y1,ng1,mg1,k11,k12,v11,v12,l1⟩:=Aj (E:=E) (D:=0) Wh x1 (show 0<2^1 by decide) bs.1 (by omega);have q1:aSG 0 (pW a).x.num.natAbs<2^(4*k+1):=by rw[aS1];exact bs.1.1
 have q2:=xp q1 bs.2.1.1;obtain⟨y2,ng2,mg2,k21,k22,v21,v22,l2⟩:=Aj (E:=E) l1 x2 q1 bs.2.1 (by omega);obtain⟨y3,ng3,mg3,k31,k32,v31,v32,l3⟩:=Aj (E:=E) l2 x3 q2 bs.2.2 (by omega);have gp:=PV dY;obtain⟨w2,Cf,Wr⟩:=xL (E:=E) io l3 ⟨1,by omega,by decide⟩ (fG (K5 ba) (by omega)) (by show((pG a:Nat):Int)≠0;omega);have bw2:Bq (4*k+1) (aSu 1 (pG a)):=Bq.divInt (by omega) (by have:=ba.1.pos;exact kZ (show 1<2^1 by decide) (by omega)) (by rw[aSv];exact K5 ba);obtain⟨f,hf,if'⟩:=kn (E:=E) is Wr bs bw2 (by omega);obtain⟨i4,j4,i5,j5,_,_,rfl,-,-,-,-⟩:=bX Wr;have W2:=aW _ Wr;obtain⟨f0,h0,f1,h1,f2,h2,f3,h3,f4,h4,f5,h5,rfl,-,-,-,QF,SF⟩:=bM if';refine nY au4 ?_;intro ts hl g0;unfold c63;simp only[↓aN,aO,↓aQ,aJ,↓reduceIte,aa,ah,ae,Tryz.f63,hl,g0,hz,P,ho,Mo];refine ew 4 ?_
 simp(maxSteps:=2000000)only[↓aN,aO,↓aQ,aJ,↓reduceIte,aa,ah,ak,ae,an,ao,aq,ai,aj,aA,aj,hl,P,O,uj,zZ,ED,ho,po,e11,e12,e13,e14,u11,u12,u13,u14,u15,e21,e22,e23,e24,u21,u22,u23,u24,u25,e31,e32,e33,e34,u31,u32,u33,u34,u35,hw,W,hs,S']
 refine ew 4 ?_
 simp(maxSteps:=2000000)only[↓aN,aO,↓aQ,aJ,↓reduceIte,aa,ah,ak,ae,an,ao,aq,ai,aj,aA,aj,hl,uj,zZ,ED,ho,po,Q,S',k11,k12,v11,v12,k21,k22,v21,v22,k31,k32,v31,v32,Cf,W2,hf,QF,SF]
 exact⟨_,rfl,if'⟩
inductive je:List AV->List Rat->Prop
 |nil:je [] []
 |cons {n:Bool} {m:AV} {n':Bool} {m':AV} {q:Rat} {cs:List AV} {qs:List Rat} (h:dA (.agg [.bool n,m,.bool n',m']) q) (t:je cs qs):je (.bool n::m:: .bool n'::m'::cs) (q::qs)
theorem je.len:∀{cs:List AV} {qs:List Rat},je cs qs->cs.length=qs.length*4
 |_,_,.nil=>rfl
 |_,_,.cons _ t=>by
  have:=t.len
  simp only[aMm];omega
theorem je.get:∀{cs:List AV} {qs:List Rat},je cs qs->∀{i:Nat},i<qs.length->∃n m n' m',(cs.drop (i*4)).take 4=[.bool n,m,.bool n',m']/\dA (.agg [.bool n,m,.bool n',m']) (qs.getD i 0)
 |_,_,.nil,i,hi=>by simp at hi
 |_,_,.cons (n:=n) (m:=m) (n':=n') (m':=m') h t,0,_=>⟨n,m,n',m',by simp,by simpa using h⟩
 |_,_,.cons h t,i+1,hi=>by
  obtain⟨n,m,n',m',h1,h2⟩:=t.get (i:=i) (by simpa using hi);refine⟨n,m,n',m',?_,by simpa using h2⟩;rw[<-h1,show(i+1)*4=i*4+4 by omega];simp only[aPm]
theorem je.set:∀{cs:List AV} {qs:List Rat},je cs qs->∀{i:Nat},i<qs.length->∀{n m n' m'} {q:Rat},dA (.agg [.bool n,m,.bool n',m']) q->je (cH cs (i*4) [.bool n,m,.bool n',m']) (qs.set i q)
 |_,_,.nil,i,hi,_,_,_,_,_,_=>by simp at hi
 |_,_,.cons h t,0,_,_,_,_,_,_,h'=>by
  simp only[cH,Nat.zero_mul,List.take_zero,List.nil_append,aPr,aMm,aO9,aLM,aPm,List.drop_zero,List.set_cons_zero];exact .cons h' t
 |_,_,.cons h t,i+1,hi,_,_,_,_,_,h'=>by
  have:=t.set (i:=i) (by simpa using hi) h'
  unfold cH at this⊢;rw[show(i+1)*4=i*4+4 by omega];simp only[aPl,aPr,List.set_cons_succ,aMm,aO9]at this⊢;rw[show i*4+4+(0+1+1+1+1)=i*4+(0+1+1+1+1)+4 by omega];simp only[aPm];exact .cons h this
theorem je.flat:∀{cs:List AV} {qs:List Rat},je cs qs->∀v∈cs,Flat v
 |_,_,.nil=>by simp
 |_,_,.cons h t=>by
  have h1:=qX h;have h2:=t.flat;intro v hv;simp only[aMc]at hv;rcases hv with hv|hv|hv|hv|hv
  ·exact h1 v (by simp[hv])
  ·exact h1 v (by simp[hv])
  ·exact h1 v (by simp[hv])
  ·exact h1 v (by simp[hv])
  ·exact h2 v hv
theorem je.pure:∀{cs:List AV} {qs:List Rat},je cs qs->bE cs=true
 |_,_,.nil=>rfl
 |_,_,.cons h t=>by
  have:=aW _ h
  simp[bE,aU,this.1,this.2.2.1,t.pure]
theorem je.one:∀{cs:List AV} {qs:List Rat},je cs qs->cs.all df=true
 |_,_,.nil=>rfl
 |_,_,.cons h t=>by
  have:=aW _ h
  simp only[aN1,oK,this.2.1,this.2.2.2,t.one,Bool.and_self]
theorem je.E9:∀(n:Nat),je (iE [.bool false,.aH,.bool false,.aH] n) (List.replicate n 0)
 |0=>.nil
 |n+1=>.cons rU (je.E9 n)
def iY(v:AV)(qs:List Rat):Prop:=∃cs,v=.aK cs qs.length/\je cs qs
theorem iY.pure{v:AV}{qs:List Rat}(h:iY v qs):aU v=true:=by obtain⟨cs,rfl,h⟩:=h;rfl
def D7(f:Rat->Rat->Rat)(a b:List Rat):Nat->List Rat
 |0=>List.replicate a.length 0
 |i+1=>(D7 f a b i).set i (f (a.getD i 0) (b.getD i 0))
theorem jR{f:Rat->Rat->Rat}{a b:List Rat}:∀{i:Nat},(D7 f a b i).length=a.length
 |0=>by simp[D7]
 |i+1=>by rw[D7,List.length_set,jR]
theorem LH{f:Rat->Rat->Rat}{a b:List Rat}:∀{i j:Nat},i<=a.length->j<i->(D7 f a b i).getD j 0=f (a.getD j 0) (b.getD j 0)
 |0,j,_,h=>by omega
 |i+1,j,hi,h=>by
  rw[D7,aQP,List.getElem?_set];by_cases e:i=j
  ·subst e;rw[if_pos rfl,if_pos (by rw[jR];omega)];rfl
  ·rw[if_neg e,<-aQP];exact LH (by omega) (by omega)
theorem Bv{f:Rat->Rat->Rat}{a b:List Rat}(h:b.length=a.length):D7 f a b a.length=aSR f a b:=by
 refine List.ext_getElem (by rw[jR,aSY];omega) fun i h1 h2=>?_
 rw[jR]at h1
 have:=LH (f:=f) (a:=a) (b:=b) (Nat.le_refl _) h1
 rw[aQP,aL5 (by rw[jR];exact h1),aMp]at this;rw[this,List.getElem_zipWith,aQP,aL5 h1,aQP,aL5 (by omega)];rfl
theorem kb{cs:List AV}{o:Nat}(ho:o+4<=cs.length):fD true 4 cs o=some (.agg ((cs.drop o).take 4)):=by simp[fD,ho]
theorem wu{H:Hp}{b o:Nat}{cs xs:List AV}(h:H[b]?=some (.cells .live cs))(hx:xs.length=4)(ho:o+4<=cs.length)(so:xs.all df=true):mK 4 xs H b o=some (.cells .live (cH cs o xs)):=by rw[kH,h];simp only;rw[if_pos (by simp[hx,ho,so])]
theorem Fh{fn:Nat}(hf:bQ E fn=false){fc:List AV}(hfc:bE fc=true){f:Rat->Rat->Rat}{v w:AV}{a b:List Rat}(h:iY v a)(h':iY w b)(Hd:b.length=a.length)(n8:a.length<=1000)
  (hx:∀i x y,i<a.length->dA x (a.getD i 0)->dA y (b.getD i 0)->∃r,aP E fn (x::y::fc)=some r/\dA r (f (a.getD i 0) (b.getD i 0))):
  ∃r,aP E 230 [v,w,.func fn [] fc]=some r/\iY r (aSR f a b):=by
 obtain⟨ca,rfl,ra⟩:=h;obtain⟨cb,rfl,rb⟩:=h';have nN:=fun{dr st:Bool} {bl:List AV} {H:Hp} {k:AV->cE->Prop}=>gn (E:=E) (dr:=dr) (st:=st) (f:=fn) (bl:=bl) (H:=H) (k:=k) hf
 have Hf:=fun aL=>zM (E:=E) (aL:=aL) (m:=a.length) (k:=.i64) (k':=.i64) (by omega)
 refine Vy aqI ?_;intro ts hl g0 g1 g2;unfold alN;simp only[↓aN,aO,aJ,aa,ae,Tryz.f230,hl,g0,Hf];refine ft (fun k_ ts H=>∃i cs,k_=a.length-i/\ts.length=32/\gt ts 0=.aK ca a.length/\gt ts 1=.aK cb b.length/\gt ts 2=.func fn [] fc/\gt ts 7=.aI 0 0 a.length 4 a.length/\gt ts 13=.int .i64 (a.length:Int)/\gt ts 14=.int .i64 (i:Int)/\H=[.cells .live cs]/\(i<=a.length)/\(je cs (D7 f a b i))) (a.length) ?_ ?_
 rotate_left
 ·refine⟨0,(iE [.bool false,.aH,.bool false,.aH] a.length),(by first|omega|rfl|(simp;done)),(by simp only[cP,hl]),?_⟩;simp only[cR,hl,aa,ae,g0,g1,g2]
  iterate 7 refine⟨by first|trivial|rfl|(congr 1;omega)|(simp;done)|(simp;omega),?_⟩
  refine⟨?_,?_⟩
  ·omega
  ·exact je.E9 _
 clear hl g0 g1 g2 ts;rintro k_ ts H ⟨i,cs,rfl,hl,g0,g1,g2,g7,g13,g14,rfl,hi,hc⟩;refine VS ?_;have iD:=hc.len;rw[jR]at iD;by_cases hd:i<a.length
 ·have dc:decide ((i:Int)<(a.length:Int))=true:=b8 (by omega);have mM:((i:Int)<(a.length:Int))=True:=eq_true (by omega);have cb1:((i:Int)<(b.length:Int))=True:=eq_true (by omega);have w1:aX .i64 ((i:Int)+1)=((i+1:Nat):Int):=by rw[wrap_i64 (by omega) (by omega)];omega
  obtain⟨n1,m1,n2,m2,e1,r1⟩:=ra.get hd;obtain⟨n3,m3,n4,m4,e2,r2⟩:=rb.get (i:=i) (by omega);have p1:=kb (cs:=ca) (o:=i*4) (by have:=ra.len;omega);have p2:=kb (cs:=cb) (o:=i*4) (by have:=rb.len;omega);rw[e1]at p1;rw[e2]at p2;obtain⟨r,hr,ir⟩:=hx i _ _ hd r1 r2;obtain⟨n5,m5,n6,m6,_,_,rfl,-,-,-,-⟩:=bX ir;have A:=aW _ r1;have B:=aW _ r2;have D:=aW _ ir;have fZ:=wu (H:=[.cells .live cs]) (b:=0) (o:=i*4) (cs:=cs) (xs:=[.bool n5,m5,.bool n6,m6]) rfl rfl (by omega) (by simp only[aN1,oK,D.2.1,D.2.2.2,List.all_nil,Bool.and_self]);have oc:=hc.set (i:=i) (by rw[jR];exact hd) ir;have UM:decide (i*4+4<=cs.length)=true:=b8 (by omega);simp only[↓aN,aO,aJ,↓reduceIte,aa,ah,ae,hl,g0,g1,g2,g7,g13,g14,mM,cb1,w1,p1,p2,nN,hr,hfc,A,B,fZ];refine dG ?_;refine⟨_,?_,i+1,cH cs (i*4) [.bool n5,m5,.bool n6,m6],rfl,(by simp only[cP,hl]),?_⟩
  ·first|omega|(simp;omega)
  simp only[cR,hl,aa,ae,g0,g1,g2,g7,g13]
  iterate 7 refine⟨by first|trivial|rfl|(congr 1;omega)|(simp;done)|(simp;omega),?_⟩
  refine⟨?_,?_⟩
  ·omega
  ·exact oc
 ·have dc:decide ((i:Int)<(a.length:Int))=false:=cg (by omega);obtain rfl:i=a.length:=by omega
  have gg:=iJ (H:=[.cells .live cs]) (b:=0) (m:=a.length) (s:=4) (st:=.live) rfl (by decide) iD hc.flat;simp only[↓aN,aO,↓reduceIte,aa,ae,hl,g7,g13,g14,dc,gg];rw[Bv Hd]at hc;refine⟨cs,?_,hc⟩;rw[aSY,Hd,Nat.min_self]
theorem wg{l:List AV}{n:Nat}:fS (.eX l n)=[]:=rfl
def BL(k:Nat)(a:List Rat):Prop:=∀q∈a,Bq k q
theorem BL.get{k:Nat}{a:List Rat}(h:BL k a){i:Nat}(hi:i<a.length):Bq k (a.getD i 0):=by rw[aQP,aL5 hi,aMp];exact h _ (List.getElem_mem hi)
theorem Rd{v w:AV}{k0 k1 k2 k3:AV}{q p:Rat}(h:dA v q)(hk:dA (.agg [k0,k1,k2,k3]) p){k l:Nat}(bq:Bq k q)(bp:Bq l p)(hb:k+l<=100000000000)(hp:p≠0):∃r,aP E 231 [v,w,.eX [k0,k1,k2,k3] 0]=some r/\dA r (q/p):=by obtain⟨r,hr,ir⟩:=ya (E:=E) h hk bq bp (by omega) hp;obtain⟨n0,m0,n1,m1,_,_,rfl,-,-,-,-⟩:=bX h;obtain⟨i0,j0,i1,j1,_,_,e,-,-,-,-⟩:=bX hk;simp only[AV.agg.injEq,List.cons.injEq,and_true]at e;obtain⟨rfl,rfl,rfl,rfl⟩:=e;obtain⟨s0,t0,s1,t1,_,_,rfl,-,-,-,-⟩:=bX ir;have A:=aW _ h;have B:=aW _ hk;have D:=aW _ ir;have hp:fD true 4 [AV.bool i0,k1,.bool i1,k3] 0=some (.agg [.bool i0,k1,.bool i1,k3]):=rfl;refine Vy asC ?_;intro ts hl g0 g1 g2;unfold amA;simp only[↓aN,aO,↓aQ,aJ,↓reduceIte,aa,ah,ae,Tryz.f231,hl,g0,g1,g2,hp,hr,A,B,D];exact ir
theorem Q3{v w:AV}{k0 k1 k2 k3:AV}{q y p:Rat}(h:dA v q)(h':dA w y)(hk:dA (.agg [k0,k1,k2,k3]) p){k l:Nat}(bq:Bq k q)(TZ:Bq k y)(bp:Bq l p)(hb:2*k+l<=100000000000):∃r,aP E 232 [v,w,.eX [k0,k1,k2,k3] 0]=some r/\dA r (q-p*y):=by
 have mE:=gz (E:=E) h';obtain⟨x,hx,ix⟩:=gQ (E:=E) hk h' bp TZ (by omega);obtain⟨r,hr,ir⟩:=tR (E:=E) h ix bq (bp.mul TZ) (by omega);have px:=jg ix;obtain⟨n0,m0,n1,m1,_,_,rfl,-,-,-,-⟩:=bX h;obtain⟨y0,z0,y1,z1,_,_,rfl,-,-,-,-⟩:=bX h';obtain⟨i0,j0,i1,j1,_,_,e,-,-,-,-⟩:=bX hk;simp only[AV.agg.injEq,List.cons.injEq,and_true]at e;obtain⟨rfl,rfl,rfl,rfl⟩:=e;obtain⟨s0,t0,s1,t1,_,_,rfl,-,-,-,-⟩:=bX ir;have A:=aW _ h;have A':=aW _ h';have B:=aW _ hk;have D:=aW _ ir;have hp:fD true 4 [AV.bool i0,k1,.bool i1,k3] 0=some (.agg [.bool i0,k1,.bool i1,k3]):=rfl;refine Vy anA ?_;intro ts hl g0 g1 g2;unfold amZ;by_cases hy:y=0
 ·have OF:yX y.num=0:=by rw[hy];rfl
  rw[OF]at mE;simp only[↓aN,aO,↓aQ,aJ,↓reduceIte,aa,ah,ae,Tryz.f232,hl,g0,g1,mE,A,A'];rw[hy,Rat.mul_zero,aSN,Rat.neg_zero,Rat.add_zero];exact h
 ·have OF:(yX y.num==0)=false:=by
   have:y.num≠0:=fun e=>hy (aSJ.1 e)
   unfold yX;rw[if_neg this]
   split<;>rfl
  simp only[↓aN,aO,↓aQ,aJ,↓reduceIte,aa,ah,ae,Tryz.f232,hl,g0,g1,g2,hp,hr,hx,mE,OF,px,A,A',B,D,wg];exact ir
theorem Mi{H:Hp}{b f:Nat}{l1 l2 cs:List AV}{n1 n2:Nat}{st:gu}(h:H[b]?=some (.cells st cs))(hd:st≠ .dead)(hf:∀v∈cs,Flat v):ow false H [.aK l1 n1,.aK l2 n2,.func f [] [.b9 b 0]]=some ([.aK l1 n1,.aK l2 n2,.func f [] [.eX cs 0]],[b]):=by rw[nQ];unfold bW;rw[show bE [AV.aK l1 n1,.aK l2 n2,.func f [] [.b9 b 0]]=false by simp[bE,aU]];simp only[aKT,if_false];unfold dP;rw[show fz H 40 (.aK l1 n1)=some (.aK l1 n1,[])from rfl];unfold dP;rw[show fz H 40 (.aK l2 n2)=some (.aK l2 n2,[])from rfl];unfold dP;rw[ZO h hd hf];unfold dP;rfl
theorem UY{v w:AV}{a:List Rat}{p:Rat}(h:iY v a)(hk:dA w p){k l:Nat}(ba:BL k a)(bp:Bq l p)(hb:k+l<=100000000000)(n8:a.length<=1000)(hp:p≠0):∃r,aP E 199 [v,w]=some r/\iY r (aSR (fun x _=>x/p) a a):=by obtain⟨i0,j0,i1,j1,_,_,rfl,-,-,-,-⟩:=bX hk;have B:=aW _ hk;obtain⟨r,hr,ir⟩:=Fh (E:=E) (fn:=231) (fc:=[.eX [.bool i0,j0,.bool i1,j1] 0]) (bS C (by kernel_rfl)) rfl (f:=fun x _=>x/p) h h rfl n8 (fun i x y hi hx hy=>Rd (E:=E) hx hk (ba.get hi) bp hb hp);obtain⟨ca,rfl,ra⟩:=h;obtain⟨cr,rfl,rr⟩:=id ir;have gg:=Mi (f:=231) (b:=0) (H:=[.cells .live [.bool i0,j0,.bool i1,j1]]) (l1:=ca) (n1:=a.length) (l2:=ca) (n2:=a.length) (st:=.live) rfl (by decide) (qX hk);refine tp ap7 ?_;intro ts hl g0 g1;unfold amh;simp only[↓aN,aO,↓aQ,aJ,↓reduceIte,aa,ae,Tryz.f199,hl,g0,g1,gg,hr,tL];exact ir
theorem UR{v u w:AV}{a b:List Rat}{p:Rat}(h:iY v a)(h':iY u b)(hk:dA w p){k l:Nat}(ba:BL k a)(bb:BL k b)(bp:Bq l p)(hb:2*k+l<=100000000000)(Hd:b.length=a.length)(n8:a.length<=1000):∃r,aP E 200 [v,u,w]=some r/\iY r (aSR (fun x y=>x-p*y) a b):=by obtain⟨i0,j0,i1,j1,_,_,rfl,-,-,-,-⟩:=bX hk;have B:=aW _ hk;obtain⟨r,hr,ir⟩:=Fh (E:=E) (fn:=232) (fc:=[.eX [.bool i0,j0,.bool i1,j1] 0]) (bS C (by kernel_rfl)) rfl (f:=fun x y=>x-p*y) h h' Hd n8 (fun i x y hi hx hy=>Q3 (E:=E) hx hy hk (ba.get hi) (bb.get (by omega)) bp hb);obtain⟨ca,rfl,ra⟩:=h;obtain⟨cb,rfl,rb⟩:=h';obtain⟨cr,rfl,rr⟩:=id ir;have gg:=Mi (f:=232) (b:=0) (H:=[.cells .live [.bool i0,j0,.bool i1,j1]]) (l1:=ca) (n1:=a.length) (l2:=cb) (n2:=b.length) (st:=.live) rfl (by decide) (qX hk);refine Vy aoM ?_;intro ts hl g0 g1 g2;unfold arl;simp only[↓aN,aO,↓aQ,aJ,↓reduceIte,aa,ae,Tryz.f200,hl,g0,g1,g2,gg,hr,tL];exact ir
def eM(a:V3):V3:=if yE (sA a) v0<0 then KR (sA a)else sA a
theorem tV{v:AV}{a:V3}(h:eY v a){k:Nat}(ba:BV k a)(hk:k<=1000000000)(dY:a≠v0):
  ∃r,aP E 47 [v]=some r/\eY r (eM a):=by
 obtain⟨p,hp,ip⟩:=wU (E:=E) h ba hk dY;have bp:=CO ba dY;have hc:=o9 (E:=E) ip vC bp bv0 (by omega);obtain⟨n,hn,in'⟩:=Iq (E:=E) ip bp (by omega);obtain⟨J8,Km,Kz,JK,Ng,MV,N1,Nc,ND,Ol,NW,Oe,rfl,-,-,-,P,O⟩:=bM h;obtain⟨VB,Vx,VE,VI,pn2,pm2,pn3,pm3,pn4,pm4,pn5,pm5,rfl,-,-,-,P1,O1⟩:=bM ip;obtain⟨zO,zK,zI,zQ,Lb,K8,Le,Ll,Lq,Ld,Lh,Lp,rfl,-,-,-,P2,O2⟩:=bM in';refine nY ay9 ?_;intro ts hl g0;unfold c47 eM;by_cases hs:yE (sA a) v0<0
 ·have hd:decide (yE (sA a) v0<0)=true:=b8 hs;rw[if_pos hs];simp only[↓aN,aO,↓aQ,aJ,↓reduceIte,aa,ah,ae,Tryz.f47,hl,g0,P,P1,O1,P2,O2,hp,hc,hn,hd];exact in'
 ·have hd:decide (yE (sA a) v0<0)=false:=cg hs;rw[if_neg hs];simp only[↓aN,aO,↓aQ,aJ,↓reduceIte,aa,ah,ae,Tryz.f47,hl,g0,P,P1,O1,hp,hc,hd];exact ip
theorem Vg{k:Nat}{a:V3}(h:BV k a):BV (k+2) (KR a):=
 ⟨(BA.sub h.1).mono (by omega),(BA.sub h.2.1).mono (by omega),(BA.sub h.2.2).mono (by omega)⟩
theorem qV{k:Nat}{a:V3}(h:BV k a)(dY:a≠v0):BV (8*k+4) (eM a):=by
 have h1:=CO h dY;unfold eM
 split
 ·exact(Vg h1)
 ·exact h1.mono (by omega)
structure Tw where
 a:V3
 l:V3
def wi(v:AV)(t:Tw):Prop:=∃jo ji jr jh kf jY kj j6 kh j7 ke j8 kV k7 kW k6 lH lK lG lI lE lL lC lF,v=.agg [.bool jo,ji,.bool jr,jh,.bool kf,jY,.bool kj,j6,.bool kh,j7,.bool ke,j8,.bool kV,k7,.bool kW,k6,.bool lH,lK,.bool lG,lI,.bool lE,lL,.bool lC,lF]/\eY (.agg [.bool jo,ji,.bool jr,jh,.bool kf,jY,.bool kj,j6,.bool kh,j7,.bool ke,j8]) t.a/\eY (.agg [.bool kV,k7,.bool kW,k6,.bool lH,lK,.bool lG,lI,.bool lE,lL,.bool lC,lF]) t.l
theorem bP{jo ji jr jh kf jY kj j6 kh j7 ke j8}{a:V3}(h:eY (.agg [.bool jo,ji,.bool jr,jh,.bool kf,jY,.bool kj,j6,.bool kh,j7,.bool ke,j8]) a):(aU ji=true/\aU jh=true/\aU jY=true/\aU j6=true/\aU j7=true/\aU j8=true)/\(df ji=true/\df jh=true/\df jY=true/\df j6=true/\df j7=true/\df j8=true):=by obtain⟨kV,k7,kW,k6,lH,lK,lG,lI,lE,lL,lC,lF,e,-,-,-,P,O⟩:=bM h;simp only[AV.agg.injEq,List.cons.injEq,AV.bool.injEq,and_true]at e;obtain⟨rfl,rfl,rfl,rfl,rfl,rfl,rfl,rfl,rfl,rfl,rfl,rfl⟩:=e;exact⟨P,O⟩
def ed(d p:V3):Tw:=⟨d,dH p d⟩
def kd(d:V3):Tw:=⟨v0,d⟩
def Bs(s t:Tw):Tw:=⟨CS s.a t.a,CS s.l t.l⟩
theorem dN{v w:AV}{d p:V3}(h:eY v d)(h':eY w p){k l:Nat}(bd:BV k d)(bp:BV l p)(hk:k+l<=10000000000):∃r,aP E 77 [v,w]=some r/\wi r (ed d p):=by
 obtain⟨c,hc,ic⟩:=oJ (E:=E) h' h bp bd (by omega);obtain⟨J8,Km,Kz,JK,Ng,MV,N1,Nc,ND,Ol,NW,Oe,rfl,-,-,-,P,O⟩:=bM h;obtain⟨G6,G3,Hg,Hb,GB,E7,U7,T4,VR,Vz,VG,VJ,rfl,-,-,-,P1,O1⟩:=bM h';obtain⟨cn0,cm0,cn1,cm1,cn2,cm2,cn3,cm3,cn4,cm4,cn5,cm5,rfl,-,-,-,P2,O2⟩:=bM ic;refine tp azu ?_;intro ts hl g0 g1;unfold c77
 simp(maxSteps:=1000000)only[↓aN,aO,↓aQ,aJ,↓reduceIte,aa,ah,ae,Tryz.f77,ai,hl,g0,g1,P,O,P1,P2,O2,hc]
 exact⟨J8,Km,Kz,JK,Ng,MV,N1,Nc,ND,Ol,NW,Oe,cn0,cm0,cn1,cm1,cn2,cm2,cn3,cm3,cn4,cm4,cn5,cm5,rfl,h,ic⟩
theorem dU{v:AV}{d:V3}(h:eY v d):∃r,aP E 78 [v]=some r/\wi r (kd d):=by
 obtain⟨J8,Km,Kz,JK,Ng,MV,N1,Nc,ND,Ol,NW,Oe,rfl,-,-,-,P,O⟩:=bM h;refine nY avG ?_;intro ts hl g0;unfold c78
 simp(maxSteps:=1000000)only[↓aN,aO,aJ,↓reduceIte,aa,ah,ae,Tryz.f78,hl,g0,P,O]
 exact⟨_,_,_,_,_,_,_,_,_,_,_,_,_,_,_,_,_,_,_,_,_,_,_,_,rfl,vC,h⟩
theorem GQ{v w:AV}{s t:Tw}(h:wi v s)(h':wi w t){k l:Nat}(b1:BV k s.a)(b2:BV k s.l)(b3:BV l t.a)(b4:BV l t.l)(hk:k+l<=100000000000):∃r,aP E 79 [v,w]=some r/\wi r (Bs s t):=by
 obtain⟨J8,Km,Kz,JK,Ng,MV,N1,Nc,ND,Ol,NW,Oe,G6,G3,Hg,Hb,GB,E7,U7,T4,VR,Vz,VG,VJ,rfl,ha,hb⟩:=h;obtain⟨cn0,cm0,cn1,cm1,cn2,cm2,cn3,cm3,cn4,cm4,cn5,cm5,Az,Bu,AL,Al,dn2,dm2,dn3,dm3,dn4,dm4,dn5,dm5,rfl,hc,hd⟩:=h';obtain⟨x,hx,ix⟩:=CC (E:=E) ha hc b1 b3 hk;obtain⟨y,hy,iy⟩:=CC (E:=E) hb hd b2 b4 hk;obtain⟨en0,em0,en1,em1,en2,em2,en3,em3,en4,em4,en5,em5,rfl,-,-,-,P1,O1⟩:=bM ix;obtain⟨fn0,fm0,fn1,fm1,fn2,fm2,fn3,fm3,fn4,fm4,fn5,fm5,rfl,-,-,-,P2,O2⟩:=bM iy;have A:=bP ha;have B:=bP hb;have D:=bP hc;have F:=bP hd;refine tp ayB ?_;intro ts hl g0 g1;unfold c79
 simp(maxSteps:=1000000)only[↓aN,aO,↓aQ,aJ,↓reduceIte,aa,ah,ae,Tryz.f79,ai,hl,g0,g1,P1,O1,P2,O2,A,B,D,F,hx,hy]
 exact⟨en0,em0,en1,em1,en2,em2,en3,em3,en4,em4,en5,em5,fn0,fm0,fn1,fm1,fn2,fm2,fn3,fm3,fn4,fm4,fn5,fm5,rfl,ix,iy⟩
structure Mo where
 r1:V3
 r2:V3
 r3:V3
 s:V3
def MoR(v:AV)(m:Mo):Prop:=∃jo ji jr jh kf jY kj j6 kh j7 ke j8 kV k7 kW k6 lH lK lG lI lE lL lC lF yL yq yM yo yw yO yx ym yr yN yD yK vw u7 ve vA yH yS yF yC yn yB yt yR,v=.agg [.bool jo,ji,.bool jr,jh,.bool kf,jY,.bool kj,j6,.bool kh,j7,.bool ke,j8,.bool kV,k7,.bool kW,k6,.bool lH,lK,.bool lG,lI,.bool lE,lL,.bool lC,lF,.bool yL,yq,.bool yM,yo,.bool yw,yO,.bool yx,ym,.bool yr,yN,.bool yD,yK,.bool vw,u7,.bool ve,vA,.bool yH,yS,.bool yF,yC,.bool yn,yB,.bool yt,yR]/\eY (.agg [.bool jo,ji,.bool jr,jh,.bool kf,jY,.bool kj,j6,.bool kh,j7,.bool ke,j8]) m.r1/\eY (.agg [.bool kV,k7,.bool kW,k6,.bool lH,lK,.bool lG,lI,.bool lE,lL,.bool lC,lF]) m.r2/\eY (.agg [.bool yL,yq,.bool yM,yo,.bool yw,yO,.bool yx,ym,.bool yr,yN,.bool yD,yK]) m.r3/\eY (.agg [.bool vw,u7,.bool ve,vA,.bool yH,yS,.bool yF,yC,.bool yn,yB,.bool yt,yR]) m.s
def uq(m:Mo)(v:V3):V3:=⟨mu m.r1 v,mu m.r2 v,mu m.r3 v⟩
def yG(m:Mo)(t:Tw):Tw:=⟨uq m t.a,CS (uq m t.l) (dH m.s (uq m t.a))⟩
def BM(k:Nat)(m:Mo):Prop:=BV k m.r1/\BV k m.r2/\BV k m.r3/\BV k m.s
theorem Il{k l:Nat}{m:Mo}{v:V3}(bm:BM k m)(bv:BV l v):BV (3*(k+l)+4) (uq m v):=⟨rP bm.1 bv,rP bm.2.1 bv,rP bm.2.2.1 bv⟩
theorem IE{v w:AV}{m:Mo}{a:V3}(h:MoR v m)(h':eY w a){k l:Nat}(bm:BM k m)(ba:BV l a)(hk:k+l<=10000000000):∃r,aP E 84 [v,w]=some r/\eY r (uq m a):=by
 obtain⟨jo,ji,jr,jh,kf,jY,kj,j6,kh,j7,ke,j8,kV,k7,kW,k6,lH,lK,lG,lI,lE,lL,lC,lF,yL,yq,yM,yo,yw,yO,yx,ym,yr,yN,yD,yK,vw,u7,ve,vA,yH,yS,yF,yC,yn,yB,yt,yR,rfl,hx,hy,hz,hw⟩:=h;obtain⟨c1,e1,d1⟩:=rJ (E:=E) hx h' bm.1 ba hk;obtain⟨c2,e2,d2⟩:=rJ (E:=E) hy h' bm.2.1 ba hk;obtain⟨c3,e3,d3⟩:=rJ (E:=E) hz h' bm.2.2.1 ba hk;obtain⟨J8,Km,Kz,JK,Ng,MV,N1,Nc,ND,Ol,NW,Oe,rfl,-,-,-,P,O⟩:=bM h';obtain⟨i0,j0,i1,j1,_,_,rfl,-,-,-,-⟩:=bX d1;obtain⟨i2,j2,i3,j3,_,_,rfl,-,-,-,-⟩:=bX d2;obtain⟨i4,j4,i5,j5,_,_,rfl,-,-,-,-⟩:=bX d3;have D1:=aW _ d1;have D2:=aW _ d2;have D3:=aW _ d3;have X:=bP hx;have Y:=bP hy;have Z:=bP hz;have W:=bP hw;refine tp azM ?_;intro ts hl g0 g1;unfold c84
 simp(maxSteps:=1000000)only[↓aN,aO,aJ,↓reduceIte,aa,ah,ae,Tryz.f84,ai,hl,g0,g1]
 refine ew 4 ?_
 simp(maxSteps:=1000000)only[↓aN,aO,↓aQ,aJ,↓reduceIte,aa,ah,ak,ae,an,ao,aq,ai,aA,hl,P,X,Y,Z,D1,D2,D3,e1,e2,e3,uj,zZ,ED]
 exact⟨_,_,_,_,_,_,_,_,_,_,_,_,rfl,d1,d2,d3⟩
def BT(k:Nat)(t:Tw):Prop:=BV k t.a/\BV k t.l
theorem Og{v w:AV}{m:Mo}{t:Tw}(h:wi v t)(h':MoR w m){k l:Nat}(bt:BT k t)(bm:BM l m)(hk:k+l<=1000000000):∃r,aP E 43 [v,w]=some r/\wi r (yG m t):=by
 have hm:=h';obtain⟨J8,Km,Kz,JK,Ng,MV,N1,Nc,ND,Ol,NW,Oe,G6,G3,Hg,Hb,GB,E7,U7,T4,VR,Vz,VG,VJ,rfl,ha,hb⟩:=h;obtain⟨c1,e1,d1⟩:=IE (E:=E) hm ha bm bt.1 (by omega);obtain⟨c2,e2,d2⟩:=IE (E:=E) hm hb bm bt.2 (by omega);have bc1:=Il bm bt.1;have bc2:=Il bm bt.2;obtain⟨jo,ji,jr,jh,kf,jY,kj,j6,kh,j7,ke,j8,kV,k7,kW,k6,lH,lK,lG,lI,lE,lL,lC,lF,yL,yq,yM,yo,yw,yO,yx,ym,yr,yN,yD,yK,vw,u7,ve,vA,yH,yS,yF,yC,yn,yB,yt,yR,rfl,hx,hy,hz,hw⟩:=h';obtain⟨c3,e3,d3⟩:=oJ (E:=E) hw d1 bm.2.2.2 bc1 (by omega);have bc3:=jG bm.2.2.2 bc1;obtain⟨c4,e4,d4⟩:=CC (E:=E) d2 d3 bc2 bc3 (by omega);have p2:=ja d2;have p3:=ja d3;obtain⟨cn0,cm0,cn1,cm1,cn2,cm2,cn3,cm3,cn4,cm4,cn5,cm5,rfl,-,-,-,P1,O1⟩:=bM d1;obtain⟨Az,Bu,AL,Al,dn2,dm2,dn3,dm3,dn4,dm4,dn5,dm5,rfl,-,-,-,P4,O4⟩:=bM d4;have A:=bP ha;have B:=bP hb;have X:=bP hx;have Y:=bP hy;have Z:=bP hz;have W:=bP hw;refine tp avW ?_;intro ts hl g0 g1;unfold c43
 simp(maxSteps:=2000000)only[↓aN,aO,↓aQ,aJ,↓reduceIte,aa,ah,ae,Tryz.f43,ai,hl,g0,g1,p2,p3,P1,O1,P4,O4,A,B,X,Y,Z,W,e1,e2,e3,e4]
 exact⟨cn0,cm0,cn1,cm1,cn2,cm2,cn3,cm3,cn4,cm4,cn5,cm5,Az,Bu,AL,Al,dn2,dm2,dn3,dm3,dn4,dm4,dn5,dm5,rfl,d1,d4⟩
theorem LL{jo ji jr jh kf jY kj j6 kh j7 ke j8 kV k7 kW k6 lH lK lG lI lE lL lC lF}{a b:V3}(h:eY (.agg [.bool jo,ji,.bool jr,jh,.bool kf,jY,.bool kj,j6,.bool kh,j7,.bool ke,j8]) a)(h':eY (.agg [.bool kV,k7,.bool kW,k6,.bool lH,lK,.bool lG,lI,.bool lE,lL,.bool lC,lF]) b):aP E 83 [.agg [.bool jo,ji,.bool jr,jh,.bool kf,jY,.bool kj,j6,.bool kh,j7,.bool ke,j8],.agg [.bool kV,k7,.bool kW,k6,.bool lH,lK,.bool lG,lI,.bool lE,lL,.bool lC,lF]]=some (.aK [.bool jo,ji,.bool jr,jh,.bool kf,jY,.bool kj,j6,.bool kh,j7,.bool ke,j8,.bool kV,k7,.bool kW,k6,.bool lH,lK,.bool lG,lI,.bool lE,lL,.bool lC,lF] 6):=by
 refine dX ?_;have A:=bP h;have B:=bP h';have Hf:∀aL,fM E aL 118 (.int .i64 6) (.int .i64 6)=some (.aI aL 0 6 4 6,[(aL,.cells .live [.bool false,.aH,.bool false,.aH,.bool false,.aH,.bool false,.aH,.bool false,.aH,.bool false,.aH,.bool false,.aH,.bool false,.aH,.bool false,.aH,.bool false,.aH,.bool false,.aH,.bool false,.aH])]):=fun aL=>zM (E:=E) (aL:=aL) (m:=6) (k:=.i64) (k':=.i64) (by omega)
 have Vw:∀v∈[.bool jo,ji,.bool jr,jh,.bool kf,jY,.bool kj,j6,.bool kh,j7,.bool ke,j8,.bool kV,k7,.bool kW,k6,.bool lH,lK,.bool lG,lI,.bool lE,lL,.bool lC,lF],Flat v:=by
  intro v hv;rw[show [.bool jo,ji,.bool jr,jh,.bool kf,jY,.bool kj,j6,.bool kh,j7,.bool ke,j8,.bool kV,k7,.bool kW,k6,.bool lH,lK,.bool lG,lI,.bool lE,lL,.bool lC,lF]=[.bool jo,ji,.bool jr,jh,.bool kf,jY,.bool kj,j6,.bool kh,j7,.bool ke,j8]++[.bool kV,k7,.bool kW,k6,.bool lH,lK,.bool lG,lI,.bool lE,lL,.bool lC,lF]from rfl]at hv;rcases List.mem_append.1 hv with hv|hv
  ·exact rK h v hv
  ·exact rK h' v hv
 have gg:=iJ (H:=[.cells .live [.bool jo,ji,.bool jr,jh,.bool kf,jY,.bool kj,j6,.bool kh,j7,.bool ke,j8],.cells .live [.bool kV,k7,.bool kW,k6,.bool lH,lK,.bool lG,lI,.bool lE,lL,.bool lC,lF],.cells .live [.bool jo,ji,.bool jr,jh,.bool kf,jY,.bool kj,j6,.bool kh,j7,.bool ke,j8,.bool kV,k7,.bool kW,k6,.bool lH,lK,.bool lG,lI,.bool lE,lL,.bool lC,lF]]) (b:=2) (m:=6) (s:=4) (st:=.live) rfl (by decide) rfl Vw;refine tp az9 ?_;intro ts hl g0 g1;unfold c83
 simp(maxSteps:=1000000)only[↓aN,aO,aa,ah,ae,Tryz.f83,hl,g0,g1,Hf]
 refine ew 4 ?_
 simp(maxSteps:=2000000)only[↓aN,aO,aJ,↓reduceIte,aa,ah,ak,ae,an,ao,aq,ai,aj,aA,aj,hl,A,B,uj,zZ,ED,wk4,wk5,gg]
end Go.Proofs.YtblnjkjjedanaaaGreatDoor
