/- Lemmas for AssemblyChecks; no condition. -/
import Derived.Test.YtmkjgfnicfpjpaaGreatDoorTat
set_option linter.all false
set_option maxHeartbeats 100000000
set_option maxRecDepth 100000
noncomputable section
open List renaming getElem?_eq_getElem->aLh,getD_eq_getElem?_getD->aTc,length_append->aLk,getElem?_append_left->aNB,take_length->aOz,length_map->aOY,getElem?_set_ne->aNt,getElem_mem->aLr,range->aN1,getElem?_map->aMf,mem_map->aMr,getElem?_eq_none->aKG,set_append_left->aVt,append_assoc->aTs
open Nat renaming le_refl->aKE,lt_or_eq_of_le->aVr,le_of_lt_succ->aVs,reduceLT->aa,reduceEqDiff->ae,reduceAdd->ah,reduceLeDiff->ai,reduceBEq->aj
open Int renaming reduceLE->an,reduceLT->aq,reduceGT->au,reduceSub->az,reduceAdd->aA,reduceBEq->aD
namespace Go.Proofs.YtmkjgfnicfpjpaaGreatDoor
open Go Dv
variable{E:Env}[C:Ctx E]
def Sz{K u0 u1 u2 u3 u4 u5 u6 u7 u8 u9 vg sH sA sB:Nat}(I:lf K u0 u1 u2 u3 u4 u5 u6 u7 u8 u9 vg sH sA sB){b n kc g:Nat}{row:Nat->List AV}{cz:Nat->Nat->Int}(R:qS K row)(hg:bF E g=false)(hc:∀p q,p<n->q<n->aR E g [.agg (row p),.agg (row q)]=some (.int .i64 (cz p q)))(xh:n<128)(N:Nat):
  ∀{a0 c0:Nat} {lim0:Int} {mQ:List Nat} {H0:Hp},SR H0 b row mQ->mQ.Perm (aN1 n)->a0<=c0->c0<=n->c0-a0<=N->
  ∃r H',cR E sA [.aI b 0 n K kc,.int .i64 (a0:Int),.int .i64 (c0:Int),.int .i64 lim0,.func g [] []] H0=some (r,H')/\pP b n row H0 r H':=by
 obtain⟨D,hD⟩:∃D,D=AV.aI b 0 n K kc:=⟨_,rfl⟩;have I0:=I;cases I
 all_goals
  have hn:n<=1000000:=by omega
  induction N using Nat.strongRecOn with
  |_ N IH=>
  intro a0 c0 lim0 mQ H0 wF sy aF2 aGb hN;have kU:=fun{dr st:Bool} {bl:List AV} {H:Hp} {k:AV->cC->Prop}=>kH (E:=E) (dr:=dr) (st:=st) (f:=g) (bl:=bl) (H:=H) (k:=k) hg
  have pr:=R.pure;refine gi5 (fV C) (by rw[C.fn];first|with_reducible exact agd|with_reducible exact agc) (by decide) ?_;intro ts hl g0 g1 g2 g3 g4;rw[<-hD]at g0
  first|unfold aiE|unfold aiD
  simp only[↓aL,aM,Tryz.f212,Tryz.f209];refine auA (fun k_ ts H=>∃a:Nat,∃c:Nat,∃nB:Int,∃wb:Bool,∃wp:Bool,∃js,∃H1,k_=(c-a:Nat)/\ts.length=148/\gt ts 0=D/\gt ts 1=.int .i64 (a:Int)/\gt ts 2=.int .i64 (c:Int)/\gt ts 3=.int .i64 nB/\gt ts 4=.func g [] []/\gt ts 10=.bool wb/\gt ts 11=.bool wp/\H=H1/\(a<=c)/\(c<=n)/\(c-a<=N)/\(SR H1 b row js)/\(js.Perm (aN1 n))/\(HW b H0 H1)) (c0-a0) ?_ ?_
  rotate_left
  ·refine⟨a0,c0,lim0,true,true,mQ,H0,(by first|omega|rfl|simp),(by simp[bc,hl]),?_⟩;simp only[aZ,hl,aa,ae,g0,g1,g2,g3,g4]
   iterate 8 refine cG ?_
   refine⟨?_,?_,?_,?_,?_,?_⟩
   ·first|omega|trivial
   ·first|omega|trivial
   ·first|omega|trivial
   ·first|exact wF|trivial
   ·first|exact sy|trivial
   ·first|exact HW.refl _ _|trivial
  clear hl g0 g1 g2 g3 g4 ts;rintro k_ ts H ⟨a,c,nB,wb,wp,js,H1,rfl,hl,g0,g1,g2,g3,g4,g10,g11,rfl,EC,nu,hcN,hS,hp,hW⟩;refine CvS ?_;clear wF sy;have w0:=wz (z:=(c:Int)-(a:Int)) (m:=c-a);obtain⟨M,hM⟩:∃M:Nat,M=c-a:=⟨_,rfl⟩;refine Cv.ah5 ?_
  iterate 6 refine Cv.ahV ?_
  iterate 1 refine Cv.avw ?_
  refine Cv.cut (fun ts H=>∃a:Nat,∃c:Nat,∃nB:Int,∃wb:Bool,∃wp:Bool,∃m:Nat,∃js,∃H1,ts.length=148/\gt ts 0=D/\gt ts 1=.int .i64 (a:Int)/\gt ts 2=.int .i64 (c:Int)/\gt ts 3=.int .i64 nB/\gt ts 4=.func g [] []/\gt ts 10=.bool wb/\gt ts 11=.bool wp/\gt ts 12=.int .i64 ((c-a:Nat):Int)/\gt ts 13=.int .i64 (m:Int)/\H=H1/\(a+12<c)/\(c<=n)/\(c-a<=N)/\(c-a<=M)/\(a<=m)/\(m<c)/\(SR H1 b row js)/\(js.Perm (aN1 n))/\(HW b H0 H1)) ?_ ?_
  ·iterate 3 refine Cv.avw ?_
   refine Cv.cut (fun ts H=>∃a:Nat,∃c:Nat,∃nB:Int,∃wb:Bool,∃wp:Bool,∃js,∃H1,ts.length=148/\gt ts 0=D/\gt ts 1=.int .i64 (a:Int)/\gt ts 2=.int .i64 (c:Int)/\gt ts 3=.int .i64 nB/\gt ts 4=.func g [] []/\gt ts 10=.bool wb/\gt ts 11=.bool wp/\gt ts 12=.int .i64 ((c-a:Nat):Int)/\H=H1/\(a+12<c)/\(c<=n)/\(c-a<=N)/\(c-a<=M)/\(SR H1 b row js)/\(js.Perm (aN1 n))/\(HW b H0 H1)) ?_ ?_
   ·refine V.cv ?_;by_cases h12:c-a<=12
    ·have d1:decide (((c-a:Nat):Int)<=12)=true:=bh;obtain⟨r,H2,e1,rfl,Bg,JJ,zK,G2⟩:=Sy (E:=E) (kc:=kc) I0 R hg hc hS hp hn EC nu;simp only[↓aL,aM,↓aT,aJ,aa,ae,hl,g0,hD,g1,g2,g4,w0,d1,e1];exact⟨rfl,hW.trans Bg,JJ,zK,G2⟩
    have d1:decide (((c-a:Nat):Int)<=12)=false:=bj;by_cases h0:nB=0
    ·have d2:(nB==0)=true:=by simp[h0]
     obtain⟨r,H2,e1,rfl,Bg,JJ,zK,G2⟩:=M8 (E:=E) (kc:=kc) I0 R hg hc hS hp hn (a:=a) (c:=c) (by omega) nu;simp only[↓aL,aM,↓aT,aJ,aa,ae,hl,g0,hD,g1,g2,g3,g4,w0,d1,d2,e1];exact⟨rfl,hW.trans Bg,JJ,zK,G2⟩
    have d2:(nB==0)=false:=by simp[h0]
    cases wb
    ·obtain⟨r,H2,e1,rfl,Bg,JJ,zK,G2⟩:=Sx (E:=E) (kc:=kc) I0 R hg hc hS hp hn (a:=a) (c:=c) (by omega) nu xh;simp only[↓aL,aM,↓aT,aJ,aa,ae,hl,g0,hD,g1,g2,g3,g4,g10,w0,d1,d2,e1];refine iX ?_;refine⟨a,c,aW .i64 (nB-1),false,wp,JJ,H2,(by simp[bc,hl]),?_⟩;simp only[aZ,hl,aa,ae,g0,g1,g2,g4,g10,g11]
     iterate 9 refine cG ?_
     refine⟨?_,?_,?_,?_,?_,?_,?_⟩
     ·omega
     ·exact nu
     ·omega
     ·omega
     ·exact zK
     ·exact G2
     ·exact hW.trans Bg
    ·simp only[↓aL,aM,aa,ae,hl,g1,g2,g3,g10,w0,d1,d2];refine iX ?_;refine⟨a,c,nB,true,wp,js,H,(by simp[bc,hl]),?_⟩;simp only[aZ,hl,aa,ae,g0,g1,g2,g3,g4,g10,g11]
     iterate 9 refine cG ?_
     refine⟨?_,?_,?_,?_,?_,?_,?_⟩
     ·omega
     ·exact nu
     ·omega
     ·omega
     ·exact hS
     ·exact hp
     ·exact hW
   clear hl g0 g1 g2 g3 g4 g10 g11 ts;rintro ts H ⟨a,c,nB,wb,wp,js,H1,hl,g0,g1,g2,g3,g4,g10,g11,g12,rfl,EC,nu,hcN,hcM,hS,hp,hW⟩;obtain⟨r,H2,e1,m,h,LL,Eb,hh,rfl,Bg,zK⟩:=SC (E:=E) (kc:=kc) I0 R hg hc hS hp hn EC nu;rcases hh with rfl|rfl|rfl
   ·cases wb
    ·simp only[↓aL,aM,↓aT,aJ,aa,ae,aD,hl,g0,hD,g1,g2,g4,g10,e1];refine iX ?_;refine⟨a,c,nB,false,wp,m,js,H2,(by simp[bc,hl]),?_⟩;simp only[aZ,hl,aa,ae,g0,g1,g2,g3,g4,g10,g11]
     iterate 10 refine cG ?_
     refine⟨?_,?_,?_,?_,?_,?_,?_,?_,?_⟩
     ·omega
     ·exact nu
     ·omega
     ·omega
     ·omega
     ·omega
     ·exact zK
     ·exact hp
     ·exact(hW.trans Bg)
    cases wp
    ·simp only[↓aL,aM,↓aT,aJ,aa,ae,aD,hl,g0,hD,g1,g2,g4,g10,g11,e1];refine iX ?_;refine⟨a,c,nB,true,false,m,js,H2,(by simp[bc,hl]),?_⟩;simp only[aZ,hl,aa,ae,g0,g1,g2,g3,g4,g10,g11]
     iterate 10 refine cG ?_
     refine⟨?_,?_,?_,?_,?_,?_,?_,?_,?_⟩
     ·omega
     ·exact nu
     ·omega
     ·omega
     ·omega
     ·omega
     ·exact zK
     ·exact hp
     ·exact(hW.trans Bg)
    simp only[↓aL,aM,↓aT,aJ,aa,ae,aD,hl,g0,hD,g1,g2,g4,g10,g11,e1];refine iX ?_;refine⟨a,c,nB,true,true,m,js,H2,(by simp[bc,hl]),?_⟩;simp only[aZ,hl,aa,ae,g0,g1,g2,g3,g4,g10,g11]
    iterate 10 refine cG ?_
    refine⟨?_,?_,?_,?_,?_,?_,?_,?_,?_⟩
    ·omega
    ·exact nu
    ·omega
    ·omega
    ·omega
    ·omega
    ·exact zK
    ·exact hp
    ·exact(hW.trans Bg)
   ·cases wb
    ·simp only[↓aL,aM,↓aT,aJ,aa,ae,aD,hl,g0,hD,g1,g2,g4,g10,e1];refine iX ?_;refine⟨a,c,nB,false,wp,m,js,H2,(by simp[bc,hl]),?_⟩;simp only[aZ,hl,aa,ae,g0,g1,g2,g3,g4,g10,g11]
     iterate 10 refine cG ?_
     refine⟨?_,?_,?_,?_,?_,?_,?_,?_,?_⟩
     ·omega
     ·exact nu
     ·omega
     ·omega
     ·omega
     ·omega
     ·exact zK
     ·exact hp
     ·exact(hW.trans Bg)
    cases wp
    ·simp only[↓aL,aM,↓aT,aJ,aa,ae,aD,hl,g0,hD,g1,g2,g4,g10,g11,e1];refine iX ?_;refine⟨a,c,nB,true,false,m,js,H2,(by simp[bc,hl]),?_⟩;simp only[aZ,hl,aa,ae,g0,g1,g2,g3,g4,g10,g11]
     iterate 10 refine cG ?_
     refine⟨?_,?_,?_,?_,?_,?_,?_,?_,?_⟩
     ·omega
     ·exact nu
     ·omega
     ·omega
     ·omega
     ·omega
     ·exact zK
     ·exact hp
     ·exact(hW.trans Bg)
    obtain⟨r7,H7,e7,bb,rfl,-,hW7,js7,hS7,Xz⟩:=FK (E:=E) (kc:=kc) I0 R hg hc zK hp hn (a:=a) (c:=c) (by omega) nu;cases bb
    ·simp only[↓aL,aM,↓aT,aJ,aa,ae,aD,hl,g0,hD,g1,g2,g4,g10,g11,e1,e7];refine iX ?_;refine⟨a,c,nB,true,true,m,js7,H7,(by simp[bc,hl]),?_⟩;simp only[aZ,hl,aa,ae,g0,g1,g2,g3,g4,g10,g11]
     iterate 10 refine cG ?_
     refine⟨?_,?_,?_,?_,?_,?_,?_,?_,?_⟩
     ·omega
     ·exact nu
     ·omega
     ·omega
     ·omega
     ·omega
     ·exact hS7
     ·exact Xz
     ·exact(((hW.trans Bg)).trans hW7)
    ·simp only[↓aL,aM,↓aT,aJ,aa,ae,aD,hl,g0,hD,g1,g2,g4,g10,g11,e1,e7];exact⟨rfl,((hW.trans Bg)).trans hW7,js7,hS7,Xz⟩
   ·obtain⟨r3,H3,e3,rfl,nQ,p8,oY,lN⟩:=SD (E:=E) (kc:=kc) I0 R hg hc zK hp hn (a:=a) (c:=c) (by omega) nu;have w1:=wz (z:=(c:Int)-1) (m:=c-1);have w2:=wz (z:=(m:Int)-(a:Int)) (m:=m-a);have w3:=wz (z:=((c-1:Nat):Int)-((m-a:Nat):Int)) (m:=c-1-(m-a));cases wb
    ·simp only[↓aL,aM,↓aT,aJ,aa,ae,hl,g0,hD,g1,g2,g4,g10,e1,w1,w2,w3,e3];refine iX ?_;refine⟨a,c,nB,false,wp,c-1-(m-a),p8,H3,(by simp[bc,hl]),?_⟩;simp only[aZ,hl,aa,ae,g0,g1,g2,g3,g4,g10,g11]
     iterate 10 refine cG ?_
     refine⟨?_,?_,?_,?_,?_,?_,?_,?_,?_⟩
     ·omega
     ·exact nu
     ·omega
     ·omega
     ·omega
     ·omega
     ·exact oY
     ·exact lN
     ·exact((hW.trans Bg).trans nQ)
    cases wp
    ·simp only[↓aL,aM,↓aT,aJ,aa,ae,hl,g0,hD,g1,g2,g4,g10,g11,e1,w1,w2,w3,e3];refine iX ?_;refine⟨a,c,nB,true,false,c-1-(m-a),p8,H3,(by simp[bc,hl]),?_⟩;simp only[aZ,hl,aa,ae,g0,g1,g2,g3,g4,g10,g11]
     iterate 10 refine cG ?_
     refine⟨?_,?_,?_,?_,?_,?_,?_,?_,?_⟩
     ·omega
     ·exact nu
     ·omega
     ·omega
     ·omega
     ·omega
     ·exact oY
     ·exact lN
     ·exact((hW.trans Bg).trans nQ)
    obtain⟨r7,H7,e7,bb,rfl,-,hW7,js7,hS7,Xz⟩:=FK (E:=E) (kc:=kc) I0 R hg hc oY lN hn (a:=a) (c:=c) (by omega) nu;cases bb
    ·simp only[↓aL,aM,↓aT,aJ,aa,ae,hl,g0,hD,g1,g2,g4,g10,g11,e1,w1,w2,w3,e3,e7];refine iX ?_;refine⟨a,c,nB,true,true,c-1-(m-a),js7,H7,(by simp[bc,hl]),?_⟩;simp only[aZ,hl,aa,ae,g0,g1,g2,g3,g4,g10,g11]
     iterate 10 refine cG ?_
     refine⟨?_,?_,?_,?_,?_,?_,?_,?_,?_⟩
     ·omega
     ·exact nu
     ·omega
     ·omega
     ·omega
     ·omega
     ·exact hS7
     ·exact Xz
     ·exact((((hW.trans Bg).trans nQ)).trans hW7)
    ·simp only[↓aL,aM,↓aT,aJ,aa,ae,hl,g0,hD,g1,g2,g4,g10,g11,e1,w1,w2,w3,e3,e7];exact⟨rfl,(((hW.trans Bg).trans nQ)).trans hW7,js7,hS7,Xz⟩
  clear hl g0 g1 g2 g3 g4 g10 g11 ts;rintro ts H ⟨a,c,nB,wb,wp,m,js,H1,hl,g0,g1,g2,g3,g4,g10,g11,g12,g13,rfl,EC,nu,hcN,hcM,hma,Uh,hS,hp,hW⟩;have q8:∀{cc:Bool} {t:Nat},cd E cc .quo t (.int .i64 ((c-a:Nat):Int)) (.int .i64 8)=some (.int .i64 (((c-a)/8:Nat):Int)):=fun{cc t}=>aek (d:=8)
  by_cases ha:0<a
  rotate_left
  ·have da:decide ((a:Int)>0)=false:=bj;obtain⟨r4,H4,e4,k,bb,hk1,Bi,rfl,-,hW4,js4,hS4,G3⟩:=C7 (E:=E) (kc:=kc) I0 R hg hc hS hp hn (a:=a) (c:=c) (pv:=m) (by omega) nu;have x1:=wz (z:=(k:Int)-(a:Int)) (m:=k-a);have x2:=wz (z:=(c:Int)-(k:Int)) (m:=c-k);have x3:=wz (z:=(k:Int)+1) (m:=k+1);by_cases hlr:k-a<c-k
   ·have dl:decide (((k-a:Nat):Int)<((c-k:Nat):Int))=true:=bh;obtain⟨r5,H5,e5,rfl,hW5,js5,hS5,hp5⟩:=IH (k-a) (by omega) (lim0:=nB) hS4 G3 hk1 (by omega) (aKE _);simp only[↓aL,aM,↓aT,aJ,aa,ah,ae,hl,g0,hD,g1,g2,g3,g4,g12,g13,q8,x1,x2,x3,dl,e4,e5,da];refine bK ?_;refine⟨_,?_,k+1,c,nB,decide (((k-a:Nat):Int)≥(((c-a)/8:Nat):Int)),bb,js5,H5,rfl,(by simp[bc,hl]),?_⟩
    ·first|omega|(simp;omega)
    simp only[aZ,hl,aa,ae,g0,g2,g3,g4]
    iterate 8 refine cG ?_
    refine⟨?_,?_,?_,?_,?_,?_⟩
    ·omega
    ·exact nu
    ·omega
    ·exact hS5
    ·exact hp5
    ·exact(hW.trans hW4).trans hW5
   ·have dl:decide (((k-a:Nat):Int)<((c-k:Nat):Int))=false:=bj;obtain⟨r5,H5,e5,rfl,hW5,js5,hS5,hp5⟩:=IH (c-(k+1)) (by omega) (lim0:=nB) hS4 G3 (a0:=k+1) (by omega) nu (aKE _);simp only[↓aL,aM,↓aT,aJ,aa,ah,ae,hl,g0,hD,g1,g2,g3,g4,g12,g13,q8,x1,x2,x3,dl,e4,e5,da];refine bK ?_;refine⟨_,?_,a,k,nB,decide (((c-k:Nat):Int)≥(((c-a)/8:Nat):Int)),bb,js5,H5,rfl,(by simp[bc,hl]),?_⟩
    ·first|omega|(simp;omega)
    simp only[aZ,hl,aa,ae,g0,g1,g3,g4]
    iterate 8 refine cG ?_
    refine⟨?_,?_,?_,?_,?_,?_⟩
    ·omega
    ·omega
    ·omega
    ·exact hS5
    ·exact hp5
    ·exact(hW.trans hW4).trans hW5
  have da:decide ((a:Int)>0)=true:=bh;have wa:=wz (z:=(a:Int)-1) (m:=a-1);obtain⟨hx,lx⟩:=FZ R hS hp (i:=a-1) (by omega);obtain⟨hy,ly⟩:=FZ R hS hp (i:=m) (by omega);have c1:=eT (i:=a-1) (n:=n);have c2:=eT (i:=m) (n:=n);have iV:=hc _ _ hx hy;generalize C2:cz (js.getD (a-1) 0) (js.getD m 0)=zz at iV;by_cases hz:zz<0
  ·have dz:decide (zz<0)=true:=bh hz;obtain⟨r4,H4,e4,k,bb,hk1,Bi,rfl,-,hW4,js4,hS4,G3⟩:=C7 (E:=E) (kc:=kc) I0 R hg hc hS hp hn (a:=a) (c:=c) (pv:=m) (by omega) nu;have x1:=wz (z:=(k:Int)-(a:Int)) (m:=k-a);have x2:=wz (z:=(c:Int)-(k:Int)) (m:=c-k);have x3:=wz (z:=(k:Int)+1) (m:=k+1);by_cases hlr:k-a<c-k
   ·have dl:decide (((k-a:Nat):Int)<((c-k:Nat):Int))=true:=bh;obtain⟨r5,H5,e5,rfl,hW5,js5,hS5,hp5⟩:=IH (k-a) (by omega) (lim0:=nB) hS4 G3 hk1 (by omega) (aKE _);simp only[↓aL,aM,↓aT,aJ,↓reduceIte,aa,ah,ae,hl,g0,hD,g1,g2,g3,g4,g12,g13,q8,x1,x2,x3,dl,e4,e5,da,wa,lx,ly,c1,c2,kU,iV,pr,dz];refine bK ?_;refine⟨_,?_,k+1,c,nB,decide (((k-a:Nat):Int)≥(((c-a)/8:Nat):Int)),bb,js5,H5,rfl,(by simp[bc,hl]),?_⟩
    ·first|omega|(simp;omega)
    simp only[aZ,hl,aa,ae,g0,g2,g3,g4]
    iterate 8 refine cG ?_
    refine⟨?_,?_,?_,?_,?_,?_⟩
    ·omega
    ·exact nu
    ·omega
    ·exact hS5
    ·exact hp5
    ·exact(hW.trans hW4).trans hW5
   ·have dl:decide (((k-a:Nat):Int)<((c-k:Nat):Int))=false:=bj;obtain⟨r5,H5,e5,rfl,hW5,js5,hS5,hp5⟩:=IH (c-(k+1)) (by omega) (lim0:=nB) hS4 G3 (a0:=k+1) (by omega) nu (aKE _);simp only[↓aL,aM,↓aT,aJ,↓reduceIte,aa,ah,ae,hl,g0,hD,g1,g2,g3,g4,g12,g13,q8,x1,x2,x3,dl,e4,e5,da,wa,lx,ly,c1,c2,kU,iV,pr,dz];refine bK ?_;refine⟨_,?_,a,k,nB,decide (((c-k:Nat):Int)≥(((c-a)/8:Nat):Int)),bb,js5,H5,rfl,(by simp[bc,hl]),?_⟩
    ·first|omega|(simp;omega)
    simp only[aZ,hl,aa,ae,g0,g1,g3,g4]
    iterate 8 refine cG ?_
    refine⟨?_,?_,?_,?_,?_,?_⟩
    ·omega
    ·omega
    ·omega
    ·exact hS5
    ·exact hp5
    ·exact(hW.trans hW4).trans hW5
  have dz:decide (zz<0)=false:=bj hz;obtain⟨r4,H4,e4,k,hk1,Bi,rfl,-,hW4,js4,hS4,G3⟩:=SB (E:=E) (kc:=kc) I0 R hg hc hS hp hn (a:=a) (c:=c) (pv:=m) (by omega) nu (by omega);simp only[↓aL,aM,↓aT,aJ,↓reduceIte,aa,ah,ae,hl,g0,hD,g1,g2,g4,g13,da,wa,lx,ly,c1,c2,kU,iV,pr,dz,e4];refine bK ?_;refine⟨_,?_,k,c,nB,wb,wp,js4,H4,rfl,(by simp[bc,hl]),?_⟩
  ·first|omega|(simp;omega)
  simp only[aZ,hl,aa,ae,g0,g2,g3,g4,g10,g11]
  iterate 8 refine cG ?_
  refine⟨?_,?_,?_,?_,?_,?_⟩
  ·omega
  ·exact nu
  ·omega
  ·exact hS4
  ·exact G3
  ·exact hW.trans hW4
def Da{K u0 u1 u2 u3 u4 u5 u6 u7 u8 u9 vg sH sA sB:Nat}(I:lf K u0 u1 u2 u3 u4 u5 u6 u7 u8 u9 vg sH sA sB){b n kc g:Nat}{row:Nat->List AV}{cz:Nat->Nat->Int}{H0:Hp}(R:qS K row)(hg:bF E g=false)(hc:∀p q,p<n->q<n->aR E g [.agg (row p),.agg (row q)]=some (.int .i64 (cz p q)))(xh:n<128)(hS:SR H0 b row (aN1 n)):
  ∃r H',cR E sB [.aI b 0 n K kc,.func g [] []] H0=some (r,H')/\pP b n row H0 r H':=by
 obtain⟨D,hD⟩:∃D,D=AV.aI b 0 n K kc:=⟨_,rfl⟩;have I0:=I;cases I
 all_goals
  have zO:=Dd (E:=E) xh;have w1:aW .u64 (n:Int)=(n:Int):=wrap_u64;obtain⟨r1,H1,e1,rfl,hh⟩:=Sz (E:=E) (kc:=kc) I0 R hg hc xh n (lim0:=((bl n:Nat):Int)) hS (List.Perm.refl _) (Nat.zero_le n) (aKE n) (by omega);rw[show(((0:Nat):Int))=0 from rfl]at e1;refine gi2 (fV C) (by rw[C.fn];first|with_reducible exact agb|with_reducible exact aga) (by decide) ?_;intro ts hl g0 g1;rw[<-hD]at g0
  first|unfold aii|unfold aih
  simp only[↓aL,aM,↓aT,aJ,aa,ae,Tryz.f168,Tryz.f161,↓eh Up yp,hl,g0,hD,g1,zO,w1,e1];exact⟨rfl,hh⟩
def M9{K u0 u1 u2 u3 u4 u5 u6 u7 u8 u9 vg sH sA sB:Nat}(I:lf K u0 u1 u2 u3 u4 u5 u6 u7 u8 u9 vg sH sA sB){g:Nat}{H0:Hp}:
  ∃r H',cR E u0 [.aH,.int .i64 0,.int .i64 0,.func g [] []] H0=some (r,H')/\r=.tuple []/\H'=H0:=by
 have I0:=I;cases I
 all_goals
  have w1:aW .i64 ((0:Int)+1)=1:=by decide
  refine gi4 (fV C) (by rw[C.fn];first|with_reducible exact agj|with_reducible exact agi) (by decide) ?_;intro ts hl g0 g1 g2 g3
  first|unfold aiJ|unfold aiI
  simp only[↓aL,aM,aa,Tryz.f251,Tryz.f242,aA,hl,g1];refine cE (fun k_ ts H=>∃i:Nat,k_=0/\ts.length=53/\gt ts 0=.aH/\gt ts 1=.int .i64 0/\gt ts 2=.int .i64 0/\gt ts 3=.func g [] []/\gt ts 8=.int .i64 1/\H=H0/\(i=0)) (0) ?_ ?_
  rotate_left
  ·refine⟨0,(by first|omega|rfl|simp),(by simp[bc,hl]),?_⟩;simp only[aZ,hl,aa,ae,g0,g1,g2,g3]
   iterate 6 refine cG ?_
   first|trivial|omega|(simp;done)
  clear hl g0 g1 g2 g3 ts;rintro k_ ts H ⟨i,rfl,hl,g0,g1,g2,g3,g8,rfl,hi⟩;refine VS ?_;simp only[↓aL,aM,↓reduceIte,aa,ae,aq,hl,g2,g8];exact rfl
def Nd{K u0 u1 u2 u3 u4 u5 u6 u7 u8 u9 vg sH sA sB:Nat}(I:lf K u0 u1 u2 u3 u4 u5 u6 u7 u8 u9 vg sH sA sB){g:Nat}{z:Int}{H0:Hp}:
  ∃r H',cR E sA [.aH,.int .i64 0,.int .i64 0,.int .i64 z,.func g [] []] H0=some (r,H')/\r=.tuple []/\H'=H0:=by
 have I0:=I;cases I
 all_goals
  have w1:aW .i64 (0:Int)=0:=by decide
  have w2:aW .i64 ((0:Int)-0)=0:=by decide
  obtain⟨r,H2,e1,rfl,rfl⟩:=M9 (E:=E) I0 (g:=g) (H0:=H0);refine gi5 (fV C) (by rw[C.fn];first|with_reducible exact agd|with_reducible exact agc) (by decide) ?_;intro ts hl g0 g1 g2 g3 g4
  first|unfold aiE|unfold aiD
  simp only[↓aL,aM,Tryz.f212,Tryz.f209];refine cE (fun k_ ts H=>∃i:Nat,k_=0/\ts.length=148/\gt ts 0=.aH/\gt ts 1=.int .i64 0/\gt ts 2=.int .i64 0/\gt ts 3=.int .i64 z/\gt ts 4=.func g [] []/\gt ts 10=.bool true/\gt ts 11=.bool true/\H=H2/\(i=0)) (0) ?_ ?_
  rotate_left
  ·refine⟨0,(by first|omega|rfl|simp),(by simp[bc,hl]),?_⟩;simp only[aZ,hl,aa,ae,g0,g1,g2,g3,g4]
   iterate 8 refine cG ?_
   first|trivial|omega|(simp;done)
  clear hl g0 g1 g2 g3 g4 ts;rintro k_ ts H ⟨i,rfl,hl,g0,g1,g2,g3,g4,g10,g11,rfl,hi⟩;refine VS ?_;simp only[↓aL,aM,↓aT,aJ,aa,ae,an,az,hl,g0,g1,g2,g4,w1,e1];exact rfl
def AI{K u0 u1 u2 u3 u4 u5 u6 u7 u8 u9 vg sH sA sB:Nat}(I:lf K u0 u1 u2 u3 u4 u5 u6 u7 u8 u9 vg sH sA sB){g:Nat}{H0:Hp}:
  ∃r H',cR E sB [.aH,.func g [] []] H0=some (r,H')/\r=.tuple []/\H'=H0:=by
 have I0:=I;cases I
 all_goals
  have zO:=Dd (E:=E) (m:=0) (by omega);rw[show((0:Nat):Int)=0 from rfl]at zO;have w1:aW .u64 (0:Int)=0:=by decide
  obtain⟨r1,H1,e1,rfl,rfl⟩:=Nd (E:=E) I0 (g:=g) (H0:=H0) (z:=((bl 0:Nat):Int));refine gi2 (fV C) (by rw[C.fn];first|with_reducible exact agb|with_reducible exact aga) (by decide) ?_;intro ts hl g0 g1
  first|unfold aii|unfold aih
  simp only[↓aL,aM,↓aT,aJ,aa,ae,Tryz.f168,Tryz.f161,↓eh Up yp,hl,g0,g1,zO,w1,e1];exact rfl
def gf{cs:List AV}{n:Nat}(h:0<n:=by omega):lR cs n=.aK cs n:=by unfold lR;rw[if_neg (by omega)]
def nU{cs:List AV}{n:Nat}:kC (lR cs n)=some (n:Int):=by
 unfold lR;split
 ·rename_i h;subst h;rfl
 ·rfl
def yM{cs:List AV}{n:Nat}:Flat (lR cs n):=by
 unfold lR;split<;>exact fun _ _=>rfl
def ae8{cs:List AV}{n:Nat}:Flat (.aK cs n):=fun _ _=>rfl
def mB{cs:List AV}{n:Nat}:cL (lR cs n)=true:=by unfold lR;split<;>rfl
def TF{cs:List AV}{n:Nat}:(lR cs n).cells=[lR cs n]:=by unfold lR;split<;>rfl
def rz{b:Bool}:cL (.bool b)=true:=rfl
def sT{E:Env}{t s rU aP b:Nat}{ag:Bool}{z x:List AV}{H:Hp}{st:oe}(hS:dV E t=some (ag,s,rU,z))(hs:0<s)(hb:H[b]?=some (.cells st x))(hd:st≠ .dead)(hx:x.length=s)(hxo:x.all cL=true)(hr:1*rU<=eU):
  bB E H aP .append [t,t] [.aH,.aI b 0 1 s 1]=some (.aI aP 0 1 s 1,[(aP,.cells .live x)]):=by
 obtain⟨i,e,ei,h1,h2,h3,h4,h5,h6,h7⟩:=iR hS;obtain⟨cD,jA,jS,jB,jZ,dQ⟩:=i;simp only at h2;subst h2 h5 h6;have o6:qM H ei false (.aI b 0 1 ei.size 1)=some (1,x):=by
  have ht:List.take (1*ei.size) x=x:=by rw[Nat.one_mul,<-hx,aOz]
  simp[qM,l9,mX,gO,hb,hd,hx];rw[<-hx,aOz]
 have Uc:bB E H aP .append [t,t] [.aH,.aI b 0 1 ei.size 1]=dT E H aP false t .aH (.aI b 0 1 ei.size 1):=by simp[bB,h1]
 rw[Uc];unfold dT;simp only[h1,h3,o6];rw[if_neg (by omega),if_neg (by rw[hxo,h7];simp;omega),if_pos ⟨by omega,by omega⟩]
def Cb{E:Env}{t s rU b n aP:Nat}{ag:Bool}{z x cs:List AV}{H:Hp}(hS:dV E t=some (ag,s,rU,z))(hs:0<s)(AF:0<n)(hb:H[b]?=some (.cells .live cs))(oQ:cs.length=n*s){c:Nat}{st:oe}(hc:H[c]?=some (.cells st x))(hd:st≠ .dead)(hx:x.length=s)(hxo:x.all cL=true)(hr:(n+1)*rU<=eU)(hn:n+1<=4611686018427387904:=by omega):
  bB E H aP .append [t,t] [.aI b 0 n s n,.aI c 0 1 s 1]=some (.aI aP 0 (n+1) s (n+1),[(b,.cells .dead []),(aP,.cells .live (cs++x))]):=by
 obtain⟨i,e,ei,h1,h2,h3,h4,h5,h6,h7⟩:=iR hS;obtain⟨cD,jA,jS,jB,jZ,dQ⟩:=i;simp only at h2;subst h2 h5 h6;have o6:qM H ei false (.aI c 0 1 ei.size 1)=some (1,x):=by
  have ht:List.take (1*ei.size) x=x:=by rw[Nat.one_mul,<-hx,aOz]
  simp[qM,l9,mX,gO,hc,hd,hx];rw[<-hx,aOz]
 have Uc:bB E H aP .append [t,t] [.aI b 0 n ei.size n,.aI c 0 1 ei.size 1]=dT E H aP false t (.aI b 0 n ei.size n) (.aI c 0 1 ei.size 1):=by simp[bB,h1]
 rw[Uc];unfold dT;simp only[h1,h3,o6];rw[if_neg (by omega),if_neg (by rw[hxo,h7];simp;omega)];simp only[hb];rw[if_neg (by omega),if_pos ⟨trivial,by omega,by omega,by omega⟩,List.drop_zero,<-oQ,aOz]
def ahS{E:Env}{t s rU d aP:Nat}{ag:Bool}{z x cs:List AV}{n:Nat}{v:AV}{G:Hp}{st:oe}(hS:dV E t=some (ag,s,rU,z))(hs:0<s)(h:uo s 0 v G n cs)(oQ:cs.length=n*s)(hd:G[d]?=some (.cells st x))(dp:st≠ .dead)(azG:aP=G.length)(hx:x.length=s)(hxo:x.all cL=true)(hr:(n+1)*rU<=eU)(hn:n+1<=4611686018427387904):
  ∃bJ H2,bB E G aP .append [t,t] [v,.aI d 0 1 s 1]=some (.aI aP 0 (n+1) s (n+1),bJ)/\(cC.bJ bJ).app G=H2/\H2[aP]?=some (.cells .live (cs++x))/\H2.length=aP+1/\(∀k,k<aP->(∀m,v≠ .aI k 0 m s m)->H2[k]?=G[k]?):=by
 subst azG;rcases h with⟨rfl,rfl,rfl⟩|⟨AF,b,mN,sn,rfl,hb3⟩
 ·refine⟨_,_,sT hS hs hd dp hx hxo (by simpa using hr),rfl,?_,?_,?_⟩
  ·rw[cp,dN,List.nil_append];simp
  ·rw[cp,dN];simp
  ·intro k hk _;rw[cp,dN,aNB (by omega)]
 ·refine⟨_,_,Cb hS hs AF hb3 oQ hd dp hx hxo hr hn,rfl,?_,?_,?_⟩
  ·rw[lj,dk sn,show G.length=(G.set b (.cells .dead [])).length by simp,dN];simp
  ·rw[lj,dk sn,show G.length=(G.set b (.cells .dead [])).length by simp,dN];simp
  ·intro k hk Bi;have hkb:b≠k:=by rintro rfl;exact Bi n rfl
   rw[lj,dk sn,show G.length=(G.set b (.cells .dead [])).length by simp,dN,aNB (by simpa using hk),aNt hkb]
def uo.Ra{s low n:Nat}{v:AV}{H:Hp}{cs:List AV}(h:uo s low v H n cs)(hp:aU v=true):lR cs n=v:=by
 rcases h with⟨rfl,rfl,rfl⟩|⟨h0,b,h1,h2,rfl,h3⟩
 ·rfl
 ·cases hp
def uo.fr{s low n:Nat}{v:AV}{H:Hp}{cs Aw:List AV}{m:Nat}{bl:List Nat}(h:uo s low v H n cs)(hl:cs.length=n*s)(hf:eu H m cs Aw bl):∃bs,Fr H (m+1) v (lR Aw n) bs:=by
 rcases h with⟨rfl,rfl,rfl⟩|⟨h0,b,h1,h2,rfl,h3⟩
 ·exact⟨[],(Fr.flat yb).up (by omega)⟩
 ·refine⟨b::bl,?_⟩;rw[gf h0];exact Fr.M0 h3 (by decide) hl hf
def uo.KK{s low n:Nat}{v:AV}{H:Hp}{cs:List AV}(h:uo s low v H n cs)(hn:0<n):aU v=false:=by
 rcases h with⟨rfl,rfl,rfl⟩|⟨h0,b,h1,h2,rfl,h3⟩
 ·omega
 ·rfl
abbrev Fc:Type:=(I3×Nat)×List Nat
def faR(f:Fc):List AV:=yE f.1++[.aK (nA f.2) f.2.length]
def faC(l:List Fc):List AV:=(l.map faR).flatten
def Iw(l:List Fc):List AV:=l.map fun f=>.aK (nA f.2) f.2.length
def Iu(l:List Fc):List AV:=LU (l.map (·.1))
structure anE(bG:List I3)(f:Fc):Prop where
 pl:UK bG f.1.1 f.1.2
 on:f.1.2<2^bG.length
 ne:f.2≠[]
 len:f.2.length<=8
 lt:∀x∈f.2,x<bG.length
def adT(l:List Nat):aV (nA l)=true:=by
 unfold nA;induction l with
 |nil=>rfl
 |cons x l ih=>simp[aV,aU,ih]
def agT(l:List Nat):nA l=iL (l.map fun(q:Nat)=>(q:Int)):=by unfold nA iL;rw[List.map_map];rfl
def WJ(l:List Fc):∀r∈l.map faR,r.length=5:=by intro r hr;obtain⟨p,_,rfl⟩:=aMr.1 hr;rfl
def acM(l:List Fc):(faC l).length=l.length*5:=by unfold faC;rw[iY (WJ l),aOY]
def WK:Fc:=((I3.zr,0),[])
def Ah(fs:List Fc)(p:Nat):List AV:=faR (fs.getD p WK)
def ZS(fs:List Fc):qS 5 (Ah fs):=by refine⟨fun p=>rfl,fun p=>rfl,fun p=>?_⟩;unfold Ah faR yE;simp[aV,aU]
def acN(fs:List Fc)(js:List Nat):(js.map (Ah fs)).flatten=faC (js.map fun p=>fs.getD p WK):=by unfold faC Ah;rw[List.map_map];rfl
def ajG(fs:List Fc):((aN1 fs.length).map (Ah fs)).flatten=faC fs:=by
 rw[acN];congr 1;refine List.ext_getElem? fun k=>?_
 rw[aMf];rcases Nat.lt_or_ge k fs.length with h|h
 ·rw[List.getElem?_range h];simp[h,aTc]
 ·rw[aKG (by simpa using h),aKG h];rfl
def ZU(l:List Fc):∀c∈Iw l,Flat c:=by intro c hc;unfold Iw at hc;obtain⟨f,_,rfl⟩:=aMr.1 hc;exact ae8
def aen(fs:List Fc)(hl:∀f∈fs,f.2.length<=8):∃cz:Nat->Nat->Int,∀p q,p<fs.length->q<fs.length->aR E 162 [.agg (Ah fs p),.agg (Ah fs q)]=some (.int .i64 (cz p q)):=by
 have h:∀p q,∃z:Int,p<fs.length->q<fs.length->aR E 162 [.agg (Ah fs p),.agg (Ah fs q)]=some (.int .i64 z):=by
  intro p q;by_cases hpq:p<fs.length/\q<fs.length
  ·obtain⟨hp,hq⟩:=hpq;have l1:(fs.getD p WK).2.length<=8:=by rw[aTc,aLh hp];exact hl _ (aLr hp)
   have l2:(fs.getD q WK).2.length<=8:=by rw[aTc,aLh hq];exact hl _ (aLr hq)
   unfold Ah;generalize fs.getD p WK=f at l1;generalize fs.getD q WK=g at l2;obtain⟨⟨⟨x,y,z⟩,o⟩,u⟩:=f;obtain⟨⟨⟨x',y',z'⟩,o'⟩,u'⟩:=g;obtain⟨r,hr,w,rfl⟩:=GS (E:=E) (x:=.int .i64 x) (y:=.int .i64 y) (z:=.int .i64 z) (o:=.int .u64 ((o:Nat):Int)) (x':=.int .i64 x') (y':=.int .i64 y') (z':=.int .i64 z') (o':=.int .u64 ((o':Nat):Int)) (xs:=u.map fun(q:Nat)=>(q:Int)) (ys:=u'.map fun(q:Nat)=>(q:Int)) (by simp at l1⊢;omega) (by simp at l2⊢;omega) rfl rfl;rw[aOY,aOY,<-agT,<-agT]at hr;exact⟨w,fun _ _=>hr⟩
  ·exact⟨0,fun hp hq=>absurd ⟨hp,hq⟩ hpq⟩
 exact⟨fun p q=>Classical.choose (h p q),fun p q=>Classical.choose_spec (h p q)⟩
def QX{l:List Nat}{i:Nat}(h:i<l.length):fG false 1 (nA l) i=some (.int .i64 ((l.getD i 0:Nat):Int)):=by
 rw[gI];unfold nA
 rw[aMf,aLh h,aTc,aLh h];rfl
def KU(l:List (I3×Nat)):∀r∈l.map yE,r.length=4:=by intro r hr;obtain⟨p,_,rfl⟩:=aMr.1 hr;rfl
def aha{l:List (I3×Nat)}{i:Nat}(h:i<l.length):fG true 4 (LU l) (i*4)=some (.agg (yE l[i])):=by
 have h1:(l.map yE)[i]?=some (yE l[i]):=by rw[aMf,aLh h];rfl
 have h2:=jz (KU l) h1;have h3:=iM (KU l) (j:=i) (by simpa using h);unfold LU;rw[jd (s:=4) h3,h2]
def aei(l:List (I3×Nat)):kC (avg l)=some ((l.length:Nat):Int):=nU
def or8{a b:Nat}(ha:a<256)(hb:b<256):a|||b<256:=Nat.or_lt_two_pow (n:=8) (by omega) (by omega)
def aA8{a:Nat}(h:a<8):2^a<256:=Nat.pow_lt_pow_right (a:=2) (n:=8) (by omega) h
def acL(l:List Fc)(f:Fc):faC (l++[f])=faC l++faR f:=by unfold faC;simp
def aej(l:List Fc)(f:Fc):Iu (l++[f])=Iu l++yE f.1:=by unfold Iu LU;simp
def aeF(l:List Fc)(f:Fc):Iw (l++[f])=Iw l++[.aK (nA f.2) f.2.length]:=by unfold Iw;simp
def Q9(l:List Fc):(Iu l).length=l.length*4:=by unfold Iu;rw[HD,aOY]
def Rg(l:List Fc):(Iw l).length=l.length*1:=by unfold Iw;rw[aOY,Nat.mul_one]
def Zy(l:List Fc):∀c∈Iu l,Flat c:=KT _
def Lm(fs:List Fc)(js:List Nat):List Fc:=js.map fun p=>fs.getD p WK
def TH{fs:List Fc}{js:List Nat}(h:js.Perm (aN1 fs.length)):∀f∈Lm fs js,f∈fs:=by
 intro f hf;obtain⟨p,hp,rfl⟩:=aMr.1 hf
 have:=List.mem_range.1 (h.mem_iff.1 hp)
 rw[aTc,aLh this];exact aLr this
def DM{bG:List I3}(hR:UH bG)(hI:UI bG)(hn:bG.length<=8):
  ∃r,aR E 125 [kO bG]=some r/\∃(gs:List Fc) (ext:Nat),r=.tuple [lR (Iu gs) gs.length,lR (Iw gs) gs.length,.int .u64 ((ext:Nat):Int)]/\(∀f∈gs,anE bG f)/\gs.length<=56/\ext<256:=by
 obtain⟨pv,vR,ps,xi,hps,aDu⟩:=KW (E:=E) hR hn;have hlen:=aei ps;rw[<-xi]at hlen;have pp:=tP bG;unfold kO at vR;refine qj aqQ ?_;intro ts hl g0;unfold aoo;unfold kO at g0;simp only[↓aL,aM,↓aT,aJ,aa,ae,Tryz.f125,hl,g0,vR,hlen];refine cE (fun k_ ts H=>∃i:Nat,∃v,∃fs,∃ext,∃H1,k_=(ps.length-i:Nat)/\ts.length=66/\gt ts 0=.aK (oC bG) bG.length/\gt ts 5=v/\gt ts 6=.int .u64 ((ext:Nat):Int)/\gt ts 17=pv/\gt ts 18=.int .i64 (ps.length:Int)/\gt ts 19=.int .i64 (i:Int)/\H=H1/\(i<=ps.length)/\(∀f∈fs,anE bG f)/\(fs.length=i)/\(ext<256)/\(uo 5 0 v H1 fs.length (faC fs))) (ps.length) ?_ ?_
 rotate_left
 ·refine⟨0,.aH,[],0,[],(by first|omega|rfl|simp),(by simp[bc,hl]),?_⟩;simp only[aZ,hl,aa,ae,g0]
  iterate 7 refine cG ?_
  refine⟨?_,?_,?_,?_,?_⟩
  ·first|omega|trivial
  ·first|(intro q hq;cases hq)|trivial
  ·first|rfl|trivial
  ·first|trivial|trivial
  ·first|exact .inl ⟨rfl,rfl,rfl⟩|trivial
 clear hl g0 ts;rintro k_ ts H ⟨i,v,fs,ext,H1,rfl,hl,g0,g5,g6,g17,g18,g19,rfl,hi,hF,Jp,he,hs⟩;refine VS ?_;by_cases hd:i<ps.length
 ·have d1:decide ((i:Int)<(ps.length:Int))=true:=bh;have akE:AV.aK (LU ps) ps.length=pv:=by rw[xi];exact(gf).symm
  rw[<-akE]at g17;have ci:=eT (i:=i) (n:=ps.length) hd;have pa:=aha (l:=ps) hd;have mZ:=wz (z:=(i:Int)+1) (m:=i+1);have XB:=hps _ (aLr hd);have hpe:ps[i]=ps[i]:=rfl;generalize ps[i]=q at pa XB hpe;obtain⟨N,on⟩:=q;obtain⟨r,hr,out,rfl,eQ,ho8,ek⟩:=Tw (E:=E) hR hI hn XB.1 XB.2;rw[gf (List.length_pos_iff.2 eQ)]at hr;unfold kO at hr;simp only[yE]at hr pa;simp only[↓aL,aM,↓aT,aJ,cH,↓reduceIte,aa,ah,ae,hl,g0,g17,g18,g19,ci,pa,hr];obtain⟨HO,rfl⟩:∃HO,HO=H:=⟨H,rfl⟩;refine cE (fun k_ ts H=>∃k:Nat,∃e,∃HX,k_=(out.length-k:Nat)/\ts.length=66/\gt ts 0=.aK (oC bG) bG.length/\gt ts 5=v/\gt ts 6=.int .u64 ((e:Nat):Int)/\gt ts 8=.bI HO.length 0/\gt ts 9=.aK (nA out) out.length/\gt ts 17=.aK (LU ps) ps.length/\gt ts 18=.int .i64 (ps.length:Int)/\gt ts 19=.int .i64 (i:Int)/\gt ts 26=.aK (nA out) out.length/\gt ts 27=.int .i64 (out.length:Int)/\gt ts 28=.int .i64 (k:Int)/\H=HX/\(k<=out.length)/\(e<256)/\(HX=HO++[ct.cells .live [.int .i64 N.x,.int .i64 N.y,.int .i64 N.z,.int .u64 ((on:Nat):Int)]])) (out.length) ?_ ?_
  rotate_left
  ·refine⟨0,ext,(HO++[ct.cells .live [.int .i64 N.x,.int .i64 N.y,.int .i64 N.z,.int .u64 ((on:Nat):Int)]]),(by first|omega|rfl|simp),(by simp[bc,hl]),?_⟩;simp only[aZ,hl,aa,ae,g0,g5,g6,g17,g18,g19]
   iterate 12 refine cG ?_
   refine⟨?_,?_,?_⟩
   ·first|omega|trivial
   ·first|exact he|trivial
   ·first|rfl|trivial
  clear hl g0 g5 g6 g17 g18 g19 ts;rintro k_ ts H ⟨k,e,HX,rfl,hl,g0,g5,g6,g8,g9,g17,g18,g19,g26,g27,g28,rfl,hk,he2,hX⟩;refine VS ?_;by_cases lK:k<out.length
  ·have d2:decide ((k:Int)<(out.length:Int))=true:=bh;have ck:=eT (i:=k) (n:=out.length) lK;have na:=QX lK;have qd:=wz (z:=(k:Int)+1) (m:=k+1);have hxl:out.getD k 0<8:=by rw[aTc,aLh lK,Option.getD_some];exact Nat.lt_of_lt_of_le (ek _ (aLr lK)) hn
   generalize out.getD k 0=x at na hxl;have r8:=fun{c:Bool} {t:Nat}=>PC (E:=E) (c:=c) (t:=t) (k:=.i64) (m:=x)
   have G2:=aA8 hxl;have Qj:=fun{c:Bool} {t:Nat}=>xQ (E:=E) (c:=c) (t:=t) (a:=e) (b:=2^x)
   simp only[↓aL,aM,aJ,↓reduceIte,aa,ae,hl,g6,g26,g27,g28,ck,na,qd,r8,Qj];refine bK ?_;refine⟨_,?_,k+1,e|||2^x,H,rfl,(by simp[bc,hl]),?_⟩
   ·first|omega|(simp;omega)
   simp only[aZ,hl,aa,ae,g0,g5,g8,g9,g17,g18,g19,g26,g27]
   iterate 12 refine cG ?_
   refine⟨?_,?_,?_⟩
   ·omega
   ·exact or8 he2 G2
   ·exact hX
  ·have d2:decide ((k:Int)<(out.length:Int))=false:=bj;have Xc:eP 4 H HO.length 0=some (.agg [.int .i64 N.x,.int .i64 N.y,.int .i64 N.z,.int .u64 ((on:Nat):Int)]):=by rw[hX,dA];simp
   have D9:∀aP,bQ E aP 250 1 [(0,AV.agg [.int .i64 N.x,.int .i64 N.y,.int .i64 N.z,.int .u64 ((on:Nat):Int),.aK (nA out) out.length])]=some (.aI aP 0 1 5 1,[(aP,.cells .live [.int .i64 N.x,.int .i64 N.y,.int .i64 N.z,.int .u64 ((on:Nat):Int),.aK (nA out) out.length])]):=fun aP=>jJ Rk rfl (by decide) (by decide) rfl
   have Jv:uo 5 0 v H fs.length (faC fs):=by rw[hX];exact hs.app
   have aGy:fs.length<=56:=by omega
   obtain⟨v',bJ,lB,xj,-,-⟩:=xN (E:=E) (H:=H) (x:=[.int .i64 N.x,.int .i64 N.y,.int .i64 N.z,.int .u64 ((on:Nat):Int),.aK (nA out) out.length]) Rk (by decide) Jv (acM fs) rfl rfl (by unfold eU;omega) (by omega) (Nat.zero_le _);simp only[aLk,List.length_cons,List.length_nil,Nat.zero_add]at lB;simp only[↓aL,aM,aJ,cH,↓reduceIte,aa,ah,ae,ai,hl,g5,g8,g9,g19,g27,g28,d2,Xc,D9,lB,mZ,aLk];generalize cC.app _ (cC.bJ bJ)=H3 at xj⊢;refine bK ?_;refine⟨_,?_,i+1,v',fs++[((N,on),out)],e,H3,rfl,(by simp[bc,hl]),?_⟩
   ·first|omega|(simp;omega)
   simp only[aZ,hl,aa,ae,g0,g6,g17,g18]
   iterate 7 refine cG ?_
   refine⟨?_,?_,?_,?_,?_⟩
   ·omega
   ·intro q hq;rcases List.mem_append.1 hq with hq|hq
    ·exact hF q hq
    ·rw[List.mem_singleton]at hq;subst hq;exact⟨XB.1,XB.2,eQ,ho8,ek⟩
   ·rw[aLk];simp;omega
   ·exact he2
   ·rw[aLk,acL];exact xj
 have hie:i=ps.length:=by omega
 have d1:decide ((i:Int)<(ps.length:Int))=false:=bj;rcases hs with⟨e0,-,rfl⟩|⟨AF,b,-,sn,rfl,hb3⟩
 ·obtain⟨r1,H1,e1,rfl,rfl⟩:=AI (E:=E) .x1 (g:=162) (H0:=H);simp only[↓aL,aM,↓aT,aJ,↓reduceIte,aa,ae,hl,g5,g18,g19,d1,e1];obtain rfl:fs=[]:=List.length_eq_zero_iff.1 e0;refine cE (fun k_ ts H=>∃k:Nat,k_=0/\ts.length=66/\gt ts 6=.int .u64 ((ext:Nat):Int)/\gt ts 12=.aH/\gt ts 13=.aH/\gt ts 46=.aH/\gt ts 47=.int .i64 0/\gt ts 48=.int .i64 0/\H=H1/\(k=0)) (0) ?_ ?_
  rotate_left
  ·refine⟨0,(by first|omega|rfl|simp),(by simp[bc,hl]),?_⟩;simp only[aZ,hl,aa,ae,g6]
   iterate 7 refine cG ?_
   first|trivial|omega|(simp;done)
  clear hl g0 g5 g6 g17 g18 g19 ts;rintro k_ ts H ⟨k,rfl,hl,g6,g12,g13,WZ,W4,g48,rfl,hk⟩;refine VS ?_;simp only[↓aL,aM,↓reduceIte,aa,ae,aq,hl,g6,g12,g13,W4,g48];exact⟨[],ext,rfl,hF,by simp,he⟩
 have aGM:fs.length<=56:=by omega
 obtain⟨cz,hcz⟩:=aen (E:=E) fs (fun f hf=>(hF f hf).len);obtain⟨r1,H1,e1,rfl,hW,js,hS,hp⟩:=Da (E:=E) .x1 (b:=b) (n:=fs.length) (kc:=fs.length) (g:=162) (row:=Ah fs) (cz:=cz) (H0:=H) (ZS fs) (bM C) hcz (by omega) (by unfold SR;rw[ajG];exact hb3);have hgm:=TH hp;have Xk:(Lm fs js).length=fs.length:=by unfold Lm;rw[aOY];exact SR.tQ hp
 simp only[↓aL,aM,↓aT,aJ,↓reduceIte,aa,ae,hl,g5,g18,g19,d1,e1];obtain⟨gs,hgs⟩:∃gs,gs=Lm fs js:=⟨_,rfl⟩;rw[<-hgs]at hgm Xk;have hbL:b<H1.length:=hS.lt;obtain⟨L,hL⟩:∃L,L=H1.length:=⟨_,rfl⟩;rw[<-hL]at hbL;have hgr:∀k,k<fs.length->Ah fs (js.getD k 0)=faR (gs.getD k WK):=by
  intro k hk;have hjl:=SR.tQ hp;unfold Ah;rw[hgs];unfold Lm
  rw[aTc (l:=List.map _ _),aMf,aTc (l:=js),aLh (by omega)];rfl
 have Ug:∀{T:Hp} k,T[b]?=H1[b]?->k<fs.length->eP 5 T b (k*5)=some (.agg (faR (gs.getD k WK))):=by intro T k hT hk;have h2:=(FZ (ZS fs) hS hp hk).2;rw[dA]at h2⊢;rw[hT,h2,hgr k hk]
 refine cE (fun k_ ts H=>∃k:Nat,∃v1,∃v2,∃H2,k_=(fs.length-k:Nat)/\ts.length=66/\gt ts 6=.int .u64 ((ext:Nat):Int)/\gt ts 12=v1/\gt ts 13=v2/\gt ts 46=.aI b 0 fs.length 5 fs.length/\gt ts 47=.int .i64 (fs.length:Int)/\gt ts 48=.int .i64 (k:Int)/\H=H2/\(k<=fs.length)/\(H2[b]?=H1[b]?)/\(L<=H2.length)/\(uo 4 L v1 H2 k (Iu (gs.take k)))/\(uo 1 L v2 H2 k (Iw (gs.take k)))/\(∀b1 m1 m2,v1=.aI b1 0 m1 4 m1->v2≠ .aI b1 0 m2 1 m2)) (fs.length) ?_ ?_
 rotate_left
 ·refine⟨0,.aH,.aH,H1,(by first|omega|rfl|simp),(by simp[bc,hl]),?_⟩;simp only[aZ,hl,aa,ae,g6]
  iterate 7 refine cG ?_
  refine⟨?_,?_,?_,?_,?_,?_⟩
  ·first|omega|trivial
  ·first|rfl|trivial
  ·first|omega|trivial
  ·first|exact .inl ⟨rfl,rfl,rfl⟩|trivial
  ·first|exact .inl ⟨rfl,rfl,rfl⟩|trivial
  ·first|(intro _ _ _ e;cases e)|trivial
 clear hl g0 g5 g6 g17 g18 g19 ts;rintro k_ ts H ⟨k,v1,v2,H2,rfl,hl,g6,g12,g13,WZ,W4,g48,rfl,hk,hb,hL2,Ss,Jv,azW⟩;refine VS ?_;by_cases lK:k<fs.length
 rotate_left
 ·have d2:decide ((k:Int)<(fs.length:Int))=false:=bj;simp only[↓aL,aM,↓reduceIte,aa,ae,hl,g6,g12,g13,W4,g48,d2];obtain rfl:k=fs.length:=by omega
  rw[<-Xk,aOz]at Ss Jv;obtain⟨u1,f1⟩:=Ss.fr (Q9 gs) (eu.flat (Zy gs));obtain⟨u2,f2⟩:=Jv.fr (Rg gs) (eu.flat (ZU gs));have hng:0<gs.length:=by omega
  have n1:=Ss.KK hng;have n2:=Jv.KK hng;obtain⟨u,fY⟩:∃u,qR (aU v1&&aU v2) H [.tuple [v1,v2,.int .u64 ((ext:Nat):Int)]]=some ([.tuple [lR (Iu gs) gs.length,lR (Iw gs) gs.length,.int .u64 ((ext:Nat):Int)]],u):=by rw[n1,n2];exact⟨_,k8 (m:=4) (eu.cons ((Fr.tup (eu.cons f1 (eu.cons f2 (eu.cons ((Fr.flat fE).up (by omega)) eu.nil)))).up (by omega)) eu.nil) (by omega) (by simp[aV,aU,n1])⟩
  simp only[↓aL,aM,fY];exact⟨gs,ext,rfl,fun f hf=>hF f (hgm f hf),by omega,he⟩
 have d2:decide ((k:Int)<(fs.length:Int))=true:=bh;have ck:=eT (i:=k) (n:=fs.length) lK;have qd:=wz (z:=(k:Int)+1) (m:=k+1);have hfa:=Ug k hb lK;have htk:gs.take (k+1)=gs.take k++[gs.getD k WK]:=by rw[List.take_add_one,aLh (by omega),aTc,aLh (by omega)];rfl
 have Qm:(gs.take k).length=k:=by rw[List.length_take];omega
 generalize gs.getD k WK=f at hfa htk;obtain⟨⟨⟨x,y,z⟩,on⟩,out⟩:=f;have akC:Iu (gs.take (k+1))=Iu (gs.take k)++[.int .i64 x,.int .i64 y,.int .i64 z,.int .u64 ((on:Nat):Int)]:=by rw[htk,aej];rfl
 have akJ:Iw (gs.take (k+1))=Iw (gs.take k)++[.aK (nA out) out.length]:=by rw[htk,aeF]
 have Ea:(Iu (gs.take k)).length=k*4:=by rw[Q9,Qm]
 have CW:(Iw (gs.take k)).length=k*1:=by rw[Rg,Qm]
 simp only[faR,yE,List.cons_append,List.nil_append]at hfa;have Se:∀aP,bQ E aP 200 1 [(0,AV.agg [.int .i64 x,.int .i64 y,.int .i64 z,.int .u64 ((on:Nat):Int)])]=some (.aI aP 0 1 4 1,[(aP,.cells .live [.int .i64 x,.int .i64 y,.int .i64 z,.int .u64 ((on:Nat):Int)])]):=fun aP=>jJ DO rfl (by decide) (by decide) rfl
 have Sf:∀aP,bQ E aP 201 1 [(0,AV.aK (nA out) out.length)]=some (.aI aP 0 1 1 1,[(aP,.cells .live [.aK (nA out) out.length])]):=fun aP=>jJ Rj rfl (by decide) (by decide) rfl
 generalize Iu (gs.take k)=cs1 at Ss akC Ea;generalize Iw (gs.take k)=cs2 at Jv akJ CW;rcases Ss with⟨hk0,rfl,rfl⟩|⟨k0,b1,b1L,b1l,rfl,mN⟩
 ·have G5:v2=.aH/\cs2=[]:=by
   rcases Jv with⟨_,h,h2⟩|⟨h,_⟩
   ·exact⟨h2,h⟩
   ·omega
  obtain⟨rfl,rfl⟩:=G5;have vE:=sT (E:=E) (H:=H++[.cells .live [.int .i64 x,.int .i64 y,.int .i64 z,.int .u64 ((on:Nat):Int),.aK (nA out) out.length],.cells .live [.int .i64 x,.int .i64 y,.int .i64 z,.int .u64 ((on:Nat):Int)],dw,dw,dw]) (aP:=H.length+2) (b:=H.length+1) (x:=[.int .i64 x,.int .i64 y,.int .i64 z,.int .u64 ((on:Nat):Int)]) (st:=.live) DO (by decide) (by simp) (by decide) rfl rfl (by unfold eU;omega);have CU:=sT (E:=E) (H:=H++[.cells .live [.int .i64 x,.int .i64 y,.int .i64 z,.int .u64 ((on:Nat):Int),.aK (nA out) out.length],.cells .live [.int .i64 x,.int .i64 y,.int .i64 z,.int .u64 ((on:Nat):Int)],.cells .live [.int .i64 x,.int .i64 y,.int .i64 z,.int .u64 ((on:Nat):Int)],.cells .live [.aK (nA out) out.length],dw]) (aP:=H.length+4) (b:=H.length+3) (x:=[.aK (nA out) out.length]) (st:=.live) Rj (by decide) (by simp) (by decide) rfl rfl (by unfold eU;omega);simp only[↓aL,aM,aJ,cH,↓reduceIte,aa,ah,ae,ai,aj,hl,g12,g13,WZ,W4,g48,ck,qd,hfa,Se,Sf,vE,CU,Nat.add_assoc,aTs,aLk];refine bK ?_;refine⟨_,?_,k+1,(.aI (H.length+2) 0 1 4 1),(.aI (H.length+4) 0 1 1 1),(H++[.cells .live [.int .i64 x,.int .i64 y,.int .i64 z,.int .u64 ((on:Nat):Int),.aK (nA out) out.length],.cells .live [.int .i64 x,.int .i64 y,.int .i64 z,.int .u64 ((on:Nat):Int)],.cells .live [.int .i64 x,.int .i64 y,.int .i64 z,.int .u64 ((on:Nat):Int)],.cells .live [.aK (nA out) out.length],.cells .live [.aK (nA out) out.length]]),rfl,(by simp[bc,hl]),?_⟩
  ·first|omega|(simp;omega)
  simp only[aZ,hl,aa,ae,g6,WZ,W4]
  iterate 7 refine cG ?_
  refine⟨?_,?_,?_,?_,?_,?_⟩
  ·omega
  ·rw[aNB (by omega)];exact hb
  ·rw[aLk];omega
  ·rw[akC,hk0];exact .inr ⟨by omega,H.length+2,by omega,by simp,rfl,by simp⟩
  ·rw[akJ,hk0];exact .inr ⟨by omega,H.length+4,by omega,by simp,rfl,by simp⟩
  ·intro b1 m1 m2 e e2;injection e with e;injection e2 with e2;omega
 rcases Jv with⟨e0,-,-⟩|⟨-,b2,b2L,b2l,rfl,ay6⟩
 ·omega
 have eQ:b1≠b2:=fun e=>azW b1 k k rfl (by rw[e])
 obtain⟨H3,pE⟩:∃H3,H3=H.set b1 (.cells .dead []):=⟨_,rfl⟩;obtain⟨H4,qx⟩:∃H4,H4=H3.set b2 (.cells .dead []):=⟨_,rfl⟩;have GZ:H3.length=H.length:=by rw[pE];simp
 have Qe:H4.length=H.length:=by rw[qx];simp[GZ]
 have lN:∀{l:Hp},cJ (H++l) b1 (.cells .dead [])=H3++l:=by
  intro l;rw[dk (by rw[aLk];omega),aVt _ _ (by omega),pE]
 have G3:∀{l:Hp},cJ (H3++l) b2 (.cells .dead [])=H4++l:=by
  intro l;rw[dk (by rw[aLk];omega),aVt _ _ (by omega),qx]
 have ayO:H3[b2]?=some (.cells .live cs2):=by rw[pE,aNt eQ];exact ay6
 have vE:=Cb (E:=E) (H:=H++[.cells .live [.int .i64 x,.int .i64 y,.int .i64 z,.int .u64 ((on:Nat):Int),.aK (nA out) out.length],.cells .live [.int .i64 x,.int .i64 y,.int .i64 z,.int .u64 ((on:Nat):Int)],dw,dw,dw]) (aP:=H.length+2) (b:=b1) (n:=k) (cs:=cs1) (c:=H.length+1) (x:=[.int .i64 x,.int .i64 y,.int .i64 z,.int .u64 ((on:Nat):Int)]) (st:=.live) DO (by decide) k0 (by rw[aNB b1l];exact mN) Ea (by simp) (by decide) rfl rfl (by unfold eU;omega);have CU:=Cb (E:=E) (H:=H3++[.cells .live [.int .i64 x,.int .i64 y,.int .i64 z,.int .u64 ((on:Nat):Int),.aK (nA out) out.length],.cells .live [.int .i64 x,.int .i64 y,.int .i64 z,.int .u64 ((on:Nat):Int)],.cells .live (cs1++[.int .i64 x,.int .i64 y,.int .i64 z,.int .u64 ((on:Nat):Int)]),.cells .live [.aK (nA out) out.length],dw]) (aP:=H.length+4) (b:=b2) (n:=k) (cs:=cs2) (c:=H.length+3) (x:=[.aK (nA out) out.length]) (st:=.live) Rj (by decide) k0 (by rw[aNB (by omega)];exact ayO) CW (by rw[<-GZ];simp) (by decide) rfl rfl (by unfold eU;omega);have n1:∀{j:Nat},(b1==H.length+j)=false:=fun{j}=>beq_eq_false_iff_ne.2 (by omega)
 have n2:∀{j:Nat},(b2==H.length+j)=false:=fun{j}=>beq_eq_false_iff_ne.2 (by omega)
 have n3:(b1==H.length)=false:=beq_eq_false_iff_ne.2 (by omega);have n4:(b2==H.length)=false:=beq_eq_false_iff_ne.2 (by omega);have n5:∀{j:Nat},(H.length+j==b1)=false:=fun{j}=>beq_eq_false_iff_ne.2 (by omega)
 have n6:∀{j:Nat},(H.length+j==b2)=false:=fun{j}=>beq_eq_false_iff_ne.2 (by omega)
 have n7:(H.length==b1)=false:=beq_eq_false_iff_ne.2 (by omega);have n8:(H.length==b2)=false:=beq_eq_false_iff_ne.2 (by omega);have n9:(b1==b2)=false:=beq_eq_false_iff_ne.2 eQ;have n10:(b2==b1)=false:=beq_eq_false_iff_ne.2 (Ne.symm eQ);simp only[↓aL,aM,aJ,cH,↓reduceIte,aa,ah,ae,ai,aj,hl,g12,g13,WZ,W4,g48,ck,qd,hfa,Se,Sf,vE,CU,lj,lN,G3,GZ,Qe,n1,n3,Nat.add_assoc,aTs,aLk];refine bK ?_;refine⟨_,?_,k+1,(.aI (H.length+2) 0 (k+1) 4 (k+1)),(.aI (H.length+4) 0 (k+1) 1 (k+1)),(H4++[.cells .live [.int .i64 x,.int .i64 y,.int .i64 z,.int .u64 ((on:Nat):Int),.aK (nA out) out.length],.cells .live [.int .i64 x,.int .i64 y,.int .i64 z,.int .u64 ((on:Nat):Int)],.cells .live (cs1++[.int .i64 x,.int .i64 y,.int .i64 z,.int .u64 ((on:Nat):Int)]),.cells .live [.aK (nA out) out.length],.cells .live (cs2++[.aK (nA out) out.length])]),rfl,(by simp[bc,hl]),?_⟩
 ·first|omega|(simp;omega)
 simp only[aZ,hl,aa,ae,g6,WZ,W4]
 iterate 7 refine cG ?_
 refine⟨?_,?_,?_,?_,?_,?_⟩
 ·omega
 ·rw[aNB (by omega),qx,aNt (by omega),pE,aNt (by omega)];exact hb
 ·rw[aLk];omega
 ·rw[akC];exact .inr ⟨by omega,H.length+2,by omega,by simp[Qe],rfl,by rw[<-Qe];simp⟩
 ·rw[akJ];exact .inr ⟨by omega,H.length+4,by omega,by simp[Qe],rfl,by rw[<-Qe];simp⟩
 ·intro b1 m1 m2 e e2;injection e with e;injection e2 with e2;omega
def ahR{l:List Nat}:(l.all fun _=>true)=true:=by simp
def rQ.trans{a b c:I3}(h:rQ a b)(k:rQ b c):rQ a c:=by unfold rQ at*;omega
def adA{bG:List I3}(h:∀q,q+1<bG.length->rQ (fh bG q) (fh bG (q+1))):UI bG:=by
 intro i j tA hj;induction j with
 |zero=>omega
 |succ j ih=>
  rcases aVr (aVs tA)with hl|rfl
  ·exact(ih hl (by omega)).trans (h j hj)
  ·exact h i hj
def akS{bG:List I3}(h:∀q,q<bG.length->B3 4096 (fh bG q)):UH bG:=by
 intro p hp;obtain⟨q,hq,rfl⟩:=List.getElem_of_mem hp
 have:=h q hq
 unfold fh at this
 rwa[aTc,aLh hq]at this
structure aho(bG:List I3):Prop where
 C3:UH bG
 aAi:UI bG
 four:4<=bG.length
def Mh{bG:List I3}(hn:bG.length<=8):
  ∃r,aR E 124 [.agg [kO bG]]=some r/\∃c:Int,r=.int .i64 c/\(c=0->aho bG):=by
 have pp:=tP bG;refine qj af7 ?_;intro ts hl g0;unfold aia;unfold kO at g0;have d16:decide ((bG.length:Int)>16)=false:=bj;simp only[↓aL,aM,aJ,aa,ae,Tryz.f124,hl,g0,d16];refine cE (fun k_ ts H=>∃i:Nat,∃H1,k_=(bG.length-i:Nat)/\ts.length=54/\gt ts 3=.aK (oC bG) bG.length/\gt ts 14=.aK (oC bG) bG.length/\gt ts 15=.int .i64 (bG.length:Int)/\gt ts 16=.int .i64 (i:Int)/\H=H1/\(i<=bG.length)/\(∀q,q<i->B3 4096 (fh bG q))/\(∀q,q+1<i->rQ (fh bG q) (fh bG (q+1)))) (bG.length) ?_ ?_
 rotate_left
 ·refine⟨0,[.cells .live [.aK (oC bG) bG.length]],(by first|omega|rfl|simp),(by simp[bc,hl]),?_⟩;simp only[aZ,hl,aa,ae]
  iterate 5 refine cG ?_
  refine⟨?_,?_,?_⟩
  ·first|omega|trivial
  ·first|(intro q h;omega)|trivial
  ·first|(intro q h;omega)|trivial
 clear hl g0 ts;rintro k_ ts H ⟨i,H1,rfl,hl,g3,g14,g15,g16,rfl,hi,hq,hx⟩;refine VS ?_;by_cases hd:i<bG.length
 rotate_left
 ·have d1:decide ((i:Int)<(bG.length:Int))=false:=bj;obtain rfl:i=bG.length:=by omega
  have hR:=akS hq;have hI:=adA hx;by_cases h4:bG.length<4
  ·have d4:decide ((bG.length:Int)<4)=true:=bh;simp only[↓aL,aM,aJ,↓reduceIte,aa,ae,hl,g3,g15,g16,d1,d4];exact⟨_,rfl,fun h=>absurd h (by decide)⟩
  have d4:decide ((bG.length:Int)<4)=false:=bj;obtain⟨r,hr,fb,rfl⟩:=R7 (E:=E) hR (by omega);unfold kO at hr;cases fb
  rotate_left
  ·simp only[↓aL,aM,↓aT,aJ,↓reduceIte,aa,ae,hl,g3,g15,g16,d1,d4,hr];exact⟨_,rfl,fun h=>absurd h (by decide)⟩
  obtain⟨r2,Ec,gs,ext,rfl,-,-,-⟩:=DM (E:=E) hR hI hn;unfold kO at Ec;obtain⟨r3,hr3,z,rfl⟩:=Tb (E:=E) (x:=((ext:Nat):Int));by_cases hz:z<(bG.length:Int)
  ·have dz:decide (z<(bG.length:Int))=true:=bh hz;simp only[↓aL,aM,↓aT,aJ,↓reduceIte,aa,ae,hl,g3,g15,g16,d1,d4,hr,Ec,hr3,dz];exact⟨_,rfl,fun h=>absurd h (by decide)⟩
  ·have dz:decide (z<(bG.length:Int))=false:=bj hz;simp only[↓aL,aM,↓aT,aJ,↓reduceIte,aa,ae,hl,g3,g15,g16,d1,d4,hr,Ec,hr3,dz];exact⟨_,rfl,fun _=>⟨hR,hI,by omega⟩⟩
 have d1:decide ((i:Int)<(bG.length:Int))=true:=bh;have mZ:=wz (z:=(i:Int)+1) (m:=i+1);have pi:=mU (bG:=bG) hd;have ci:=eT (i:=i) (n:=bG.length) hd;obtain⟨r,hr,ob,rfl,hob⟩:=Hy (E:=E) (p:=fh bG i);simp only[v3]at pi hr;cases ob
 rotate_left
 ·simp only[↓aL,aM,↓aT,aJ,cH,↓reduceIte,aa,ah,ae,hl,g14,g15,g16,pi,ci,hr];exact⟨_,rfl,fun h=>absurd h (by decide)⟩
 have hB:=hob rfl;have hq':∀q,q<i+1->B3 4096 (fh bG q):=by
  intro q h;rcases aVr (aVs h)with h|rfl
  ·exact hq q h
  ·exact hB
 by_cases hi0:0<i
 rotate_left
 ·have d2:decide ((i:Int)>0)=false:=bj;simp only[↓aL,aM,↓aT,aJ,cH,↓reduceIte,aa,ah,ae,hl,g14,g15,g16,d2,mZ,pi,ci,hr,ahR,aLk];refine bK ?_;refine⟨_,?_,i+1,(H++[.cells .live [.int .i64 (fh bG i).x,.int .i64 (fh bG i).y,.int .i64 (fh bG i).z]]),rfl,(by simp[bc,hl]),?_⟩
  ·first|omega|(simp;omega)
  simp only[aZ,hl,aa,ae,g3,g14,g15]
  iterate 5 refine cG ?_
  refine⟨?_,?_,?_⟩
  ·omega
  ·exact hq'
  ·intro q h;omega
 have d2:decide ((i:Int)>0)=true:=bh;have wm:=wz (z:=(i:Int)-1) (m:=i-1);have pm:=mU (bG:=bG) (i:=i-1);have cm:=eT (i:=i-1) (n:=bG.length);obtain⟨r2,Ec,z,rfl,hz⟩:=Ky (E:=E) (p:=fh bG (i-1)) (q:=fh bG i);simp only[v3]at pm Ec;by_cases Ul:z<0
 ·have dz:decide (z≥0)=false:=bj;simp only[↓aL,aM,↓aT,aJ,cH,↓reduceIte,aa,ah,ae,hl,g3,g14,g15,g16,d2,mZ,wm,pi,ci,pm,cm,hr,Ec,dz,eL,aLk];refine bK ?_;refine⟨_,?_,i+1,(H++[.cells .live [.int .i64 (fh bG i).x,.int .i64 (fh bG i).y,.int .i64 (fh bG i).z]]),rfl,(by simp[bc,hl]),?_⟩
  ·first|omega|(simp;omega)
  simp only[aZ,hl,aa,ae,g3,g14,g15]
  iterate 5 refine cG ?_
  refine⟨?_,?_,?_⟩
  ·omega
  ·exact hq'
  ·intro q h;rcases aVr (aVs h)with h2|h2
   ·exact hx q h2
   ·subst h2;exact hz Ul
 ·have dz:decide (z≥0)=true:=bh;simp only[↓aL,aM,↓aT,aJ,cH,↓reduceIte,aa,ah,ae,hl,g3,g14,g15,g16,d2,wm,pi,ci,pm,cm,hr,Ec,dz,eL,aLk];exact⟨_,rfl,fun h=>absurd h (by decide)⟩
def IU{v:AV}(hv:kC v=some 0)(h1:v.cells=[v])(hz:ej v=[]):aR E 124 [.agg [v]]=some (.int .i64 23):=by
 suffices hh:∃r,aR E 124 [.agg [v]]=some r/\r=.int .i64 23 by obtain⟨r,h1,rfl⟩:=hh;exact h1
 refine qj af7 ?_;intro ts hl g0;unfold aia;simp only[↓aL,aM,aJ,aa,ae,Tryz.f124,au,hl,g0,hv];refine cE (fun k_ ts H=>∃i:Nat,∃H1,k_=0/\ts.length=54/\gt ts 3=v/\gt ts 14=v/\gt ts 15=.int .i64 0/\gt ts 16=.int .i64 0/\H=H1/\(i=0)) (0) ?_ ?_
 rotate_left
 ·refine⟨0,[.cells .live [v]],(by first|omega|rfl|simp),(by simp[bc,hl]),?_⟩;simp only[aZ,hl,aa,ae]
  iterate 5 refine cG ?_
  first|trivial|omega|(simp;done)
 clear hl g0 ts;rintro k_ ts H ⟨i,H1,rfl,hl,g3,g14,g15,g16,rfl,hi⟩;refine VS ?_;simp only[↓aL,aM,aJ,↓reduceIte,aa,ae,aq,hl,g3,g15,g16,hv]
end Go.Proofs.YtmkjgfnicfpjpaaGreatDoor
