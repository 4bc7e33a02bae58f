/- A part of the proof that PairRefuses returns true for every input; no condition of its own. -/
import Derived.Test.YtblnjkjjedanaaaGreatDoorTat
set_option linter.all false
set_option maxHeartbeats 100000000
set_option maxRecDepth 100000
open List renaming getD_eq_getElem?_getD->aSW,length_append->aMk,take_length->aR7,append_assoc->aS1,getElem?_append_left->aOB,length_set->aPp,getElem?_eq_getElem->aMh,getElem?_eq_none->aLB,getElem?_cons_succ->aP2,take->aTa,length_map->aOT,drop_zero->aQh,drop->aWe,mem_singleton->aNq,getElem?_append_right->aUV,mem_append->aNg,getElem?_set_ne->aN9,length_zipWith->aU6,zipWith->aU3,cons_append->aP4
open Int renaming natAbs_natCast->aTX,natAbs_mul->aVS,natCast_dvd_natCast->aSZ,reduceNeg->aB,reduceBEq->aD
open Nat renaming le_refl->aLr,gcd_dvd_right->aWd,lt_of_le_of_lt->aR2,lt_of_lt_of_le->aNU,add_assoc->aLt,gcd_pos_of_pos_left->aU4,reduceLT->aa,reduceEqDiff->ae,reduceAdd->ah,reduceLeDiff->ai,reduceBEq->aj
open Rat renaming divInt->aTV,intCast_mul->aVR,divInt_eq_div->aWf,intCast_one->aWg
open Option renaming getD_some->aNt
open Bool renaming and_self->aRg
namespace Go.Proofs.YtblnjkjjedanaaaGreatDoor
open Go Dv Dv.bV
variable{E:Env}[C:Ctx E]
def lcB(a b:Nat):Nat:=a*(b/Nat.gcd a b)
def Dd(a:List Rat):Nat->Nat
 |0=>1
 |i+1=>lcB (Dd a i) (a.getD i 0).den
theorem xO{a:List Rat}:∀{i:Nat},0<Dd a i
 |0=>Nat.one_pos
 |i+1=>Nat.mul_pos xO (Nat.div_pos (Nat.le_of_dvd (jA _) (aWd _ _)) (aU4 _ xO))
theorem Ln{a:List Rat}{k:Nat}(h:BL k a):∀{i:Nat},i<=a.length->Dd a i<2^(i*k+1)
 |0,_=>by rw[Nat.zero_mul];exact(show 1<2^(0+1)by decide)
 |i+1,hi=>by
  have h1:=Ln h (i:=i) (by omega);have h2:=(h.get (i:=i) (by omega)).2;rw[Dd,show(i+1)*k+1=(i*k+1)+k by rw[Nat.succ_mul];omega,Nat.pow_add];exact Nat.mul_lt_mul'' h1 (aR2 (Nat.div_le_self _ _) h2)
def gK(a:List Rat)(c:Rat):Nat->Nat
 |0=>0
 |i+1=>Nat.gcd (gK a c i) (a.getD i 0*c).num.natAbs
theorem QB{a:List Rat}{c:Rat}{k l:Nat}(h:BL k a)(hc:Bq l c):∀{i:Nat},i<=a.length->gK a c i<2^(k+l)
 |0,_=>Nat.pow_pos (by omega)
 |i+1,hi=>wE (QB h hc (i:=i) (by omega)) ((h.get (i:=i) (by omega)).mul hc).1
theorem Cj{q:Rat}(h:0<q):0<1/q:=by
 have h1:q*(1/q)=1:=by grind
 by_cases h2:0<1/q
 ·exact h2
 ·have h3:1/q<=0:=by grind
  have:=Rat.mul_nonneg (a:=q) (b:= -(1/q)) (by grind) (by grind)
  grind
def LH(f:Rat->Rat)(b:List Rat):Nat->List Rat
 |0=>b
 |i+1=>(LH f b i).set i (f (b.getD i 0))
theorem pX{f:Rat->Rat}{b:List Rat}:∀{i:Nat},(LH f b i).length=b.length
 |0=>rfl
 |i+1=>by rw[LH,aPp,pX]
theorem EO{f:Rat->Rat}{b:List Rat}:∀{i j:Nat},i<=b.length->j<b.length->(LH f b i).getD j 0=if j<i then f (b.getD j 0)else b.getD j 0
 |0,j,_,_=>by rw[if_neg (by omega)];rfl
 |i+1,j,hi,hj=>by
  have:=EO (f:=f) (b:=b) (i:=i) (j:=j) (by omega) hj
  rw[LH,aSW,List.getElem?_set,pX];by_cases h:i=j
  ·subst h;rw[if_pos rfl,if_pos (by omega),if_pos (by omega)];rfl
  ·rw[if_neg h,<-aSW,this];by_cases h2:j<i
   ·rw[if_pos h2,if_pos (by omega)]
   ·rw[if_neg h2,if_neg (by omega)]
theorem W1{f:Rat->Rat}{b:List Rat}:LH f b b.length=b.map f:=by
 refine List.ext_getElem (by rw[pX,aOT]) fun i h1 h2=>?_
 rw[pX]at h1
 have:=EO (f:=f) (b:=b) (aLr _) h1
 rw[if_pos h1,aSW,aMh (by rw[pX];exact h1),aNt,aSW,aMh h1,aNt]at this;rw[this,List.getElem_map]
theorem oE{f:Rat->Rat}:∀{a:List Rat},aU3 (fun x _=>f x) a a=a.map f
 |[]=>rfl
 |x::a=>by rw[List.zipWith_cons_cons,List.map_cons,oE]
theorem NQ{n:Bool}{m:AV}{D:Nat}{x:AV}{q:Rat}(hD:fk (.agg [.bool n,m]) (D:Int))(hx:cX x q){k l:Nat}(b1:D<2^k)(b2:Bq l q)(hD0:0<D)(hk:k+l<=100000000000):
  ∃d ng mg nq mq nr mr nm mm,aO E 105 [x]=some d/\aO E 104 [.agg [.bool n,m],d]=some (.agg [.bool ng,mg])/\aO E 103 [d,.agg [.bool ng,mg]]=some (.tuple [.agg [.bool nq,mq],.agg [.bool nr,mr],.int .i64 0])/\aO E 106 [.agg [.bool n,m],.agg [.bool nq,mq]]=some (.agg [.bool nm,mm])/\
  aN d=true/\(aN mg=true/\b7 mg=true)/\(aN mq=true/\b7 mq=true)/\(aN mr=true/\b7 mr=true)/\(aN mm=true/\b7 mm=true)/\fk (.agg [.bool nm,mm]) ((lcB D q.den:Nat):Int):=by
 have QH:=jA q;obtain⟨d,hd,CN⟩:=mF (E:=E) hx;have f1:=fF b1 (by omega);have f2:=fF b2.2 (by omega);obtain⟨g,hg,ig⟩:=tR (E:=E) hD CN f1 f2;rw[Int.gcd_natCast_natCast]at ig;have hgp:0<Nat.gcd D q.den:=aU4 _ hD0;have fg:Fit ((Nat.gcd D q.den:Nat):Int):=fF (aR2 (Nat.le_of_dvd hD0 (Nat.gcd_dvd_left _ _)) b1) (by omega);obtain⟨y,r,QG,iy,ir⟩:=nF (E:=E) CN ig f2 fg (by omega) (aSZ.2 (aWd _ _));rw[<-Int.natCast_ediv]at iy;obtain⟨z,hz,iz⟩:=k7 C hD iy f1 (fF (aR2 (Nat.div_le_self _ _) b2.2) (by omega));rw[<-Int.natCast_mul]at iz;have pd:=dz CN;obtain⟨ng,mg,lg,rfl,T7,-,-,-⟩:=id ig;obtain⟨nq,mq,lq,rfl,hmq,-,-,-⟩:=id iy;obtain⟨nr,mr,lr,rfl,hmr,-,-,-⟩:=id ir;obtain⟨nm,mm,lm,rfl,T8,-,-,-⟩:=id iz;exact⟨d,ng,mg,nq,mq,nr,mr,nm,mm,hd,hg,QG,hz,pd,⟨aL T7,(aY T7).2⟩,⟨aL hmq,(aY hmq).2⟩,⟨aL hmr,(aY hmr).2⟩,⟨aL T8,(aY T8).2⟩,iz⟩
def lN(a:List Rat):Rat:=if gK a ((Dd a a.length:Nat):Rat) a.length=0 then((Dd a a.length:Nat):Rat)else((Dd a a.length:Nat):Rat)*aTV 1 ((gK a ((Dd a a.length:Nat):Rat) a.length:Nat):Int)
theorem tK{v:AV}{a:List Rat}(h:gy v a){k:Nat}(ba:BL k a)(AA:a.length<=1000)(hk:k<=10000000):
  ∃r,aO E 135 [v]=some r/\∃c,c=lN a/\0<c/\Bq (k+2*(a.length*k+1)) c/\gy r (a.map (fun x=>x*c)):=by
 obtain⟨ca,rfl,ra⟩:=h;have hbound:∀i,i<=a.length->i*k<=1000*10000000:=fun i hi=>Nat.mul_le_mul (by omega) hk
 obtain⟨o,ho,io⟩:=xK C (n:=1) (by omega) (by omega);obtain⟨no,mo,lo,rfl,AB,-,-,-⟩:=id io;have Mo:aN mo=true/\b7 mo=true:=⟨aL AB,(aY AB).2⟩;have J2:=fun aM=>yP (E:=E) (aM:=aM) (m:=a.length) (k:=.i64) (k':=.i64) (by omega)
 refine mO amV ?_;intro ts hl g0;unfold alL;simp only[↓aQ,aR,↓aT,aK,↓reduceIte,aa,ah,ae,Tryz.f135,hl,g0,ho,Mo];refine fh (fun k_ ts H=>∃i nd md T,k_=a.length-i/\ts.length=97/\gt ts 0=.aJ ca a.length/\gt ts 3=.b6 0 0/\gt ts 4=.b6 1 0/\gt ts 18=.aJ ca a.length/\gt ts 19=.int .i64 (a.length:Int)/\gt ts 20=.int .i64 (i:Int)/\H=.cells .live [.bool nd,md]:: .cells .live [.bool false,.aH]::T/\(i<=a.length)/\(fk (.agg [.bool nd,md]) ((Dd a i:Nat):Int))) (a.length) ?_ ?_
 rotate_left
 ·refine⟨0,no,mo,[],(by first|omega|rfl|(simp;done)),(by simp only[cK,hl]),?_⟩;simp only[cM,hl,aa,ae,g0]
  iterate 7 refine⟨by first|trivial|rfl|(congr 1;omega)|(simp;done)|(simp;omega),?_⟩
  refine⟨?_,?_⟩
  ·omega
  ·exact io
 clear hl g0 ts;rintro k_ ts H ⟨i,nd,md,T,rfl,hl,g0,g3,g4,g18,g19,g20,rfl,hi,hD⟩;refine VS ?_;have MD:aN md=true/\b7 md=true:=by obtain⟨_,_,_,e,hm,-,-,-⟩:=id hD;simp only[AV.agg.injEq,List.cons.injEq,and_true]at e;obtain⟨-,rfl⟩:=e;exact⟨aL hm,(aY hm).2⟩
 have bD:=Ln ba hi;have hbi:=hbound i hi;by_cases hd:i<a.length
 ·have dc:decide ((i:Int)<(a.length:Int))=true:=cF (by omega);have oF:((i:Int)<(a.length:Int))=True:=eq_true (by omega);have w1:aV .i64 ((i:Int)+1)=((i+1:Nat):Int):=by rw[wrap_i64 (by omega) (by omega)];omega
  obtain⟨n1,m1,n2,m2,e1,r1⟩:=ra.get hd;have p1:=ju (cs:=ca) (o:=i*4) (by have:=ra.len;omega);rw[e1]at p1;have A:=aU _ r1;obtain⟨d,ng,mg,nq,mq,nr,mr,nm,mm,e11,e12,e13,e14,u11,u12,u13,u14,u15,i1⟩:=NQ (E:=E) hD r1 bD (ba.get hd) xO (by omega);simp only[↓aQ,aR,↓aT,aK,dt,↓reduceIte,aa,ah,ae,aj,aj,hl,g3,g18,g19,g20,oF,w1,p1,A,MD,e11,e12,e13,e14,u11,u12,u13,u14,u15,aLt,aS1,aMk,aj];refine dO ?_;refine⟨_,?_,i+1,nm,mm,(T++[.cells .live [.bool n1,m1,.bool n2,m2],.cells .live [.bool ng,mg],.cells .live [.bool nq,mq],.cells .live [.bool nr,mr]]),rfl,(by simp only[cK,hl]),?_⟩
  ·first|omega|(simp;omega)
  simp only[cM,hl,aa,ae,g0,g3,g4,g18,g19]
  iterate 7 refine⟨by first|trivial|rfl|(congr 1;omega)|(simp;done)|(simp;omega),?_⟩
  refine⟨?_,?_⟩
  ·omega
  ·exact i1
 have dc:decide ((i:Int)<(a.length:Int))=false:=cH (by omega);obtain rfl:i=a.length:=by omega
 obtain⟨w,hw,iw⟩:=xP (E:=E) hD io (fF bD (by omega)) ⟨1,by omega,by decide⟩ (by omega);rw[show aTV ((Dd a a.length:Nat):Int) 1=((Dd a a.length:Nat):Rat)from BR _]at iw;have bw:Bq (a.length*k+1) ((Dd a a.length:Nat):Rat):=Bq.int (z:=((Dd a a.length:Nat):Int)) (by rw[aTX];exact bD) (by omega);have hwp:(0:Rat)<((Dd a a.length:Nat):Rat):=by
  have:=xO (a:=a) (i:=a.length)
  exact_mod_cast this
 obtain⟨c,hc⟩:∃c,c=((Dd a a.length:Nat):Rat):=⟨_,rfl⟩;have aeB:=hc;rw[<-hc]at iw bw hwp;obtain⟨Y1,YZ,Y2,Y0,_,_,rfl,-,-,-,-⟩:=bR iw;have W:=aU _ iw;simp only[↓aQ,aR,↓aT,aK,dt,↓reduceIte,aa,ah,ae,hl,g0,g3,g19,g20,dc,MD,ho,Mo,hw,W,J2,aLt,aS1,aMk];refine fh (fun k_ ts H=>∃i ng mg cs,k_=a.length-i/\ts.length=97/\gt ts 0=.aJ ca a.length/\gt ts 3=.b6 0 0/\gt ts 4=.b6 1 0/\gt ts 11=.b6 (T.length+2) 0/\gt ts 13=.aI (T.length+3) 0 a.length 4 a.length/\gt ts 50=.int .i64 (a.length:Int)/\gt ts 51=.int .i64 (i:Int)/\H=.cells .live [.bool nd,md]:: .cells .live [.bool ng,mg]::(T++[.cells .live [.bool Y1,YZ,.bool Y2,Y0],.cells .live cs])/\(i<=a.length)/\(iZ cs (CP (fun x _=>x*c) a a i))/\(fk (.agg [.bool ng,mg]) ((gK a c i:Nat):Int))) (a.length) ?_ ?_
 rotate_left
 ·refine⟨0,false,.aH,(iG [.bool false,.aH,.bool false,.aH] a.length),(by first|omega|rfl|(simp;done)),(by simp only[cK,hl]),?_⟩;simp only[cM,hl,aa,ae,g0,g3,g4]
  iterate 8 refine⟨by first|trivial|rfl|(congr 1;omega)|(simp;done)|(simp;omega),?_⟩
  refine⟨?_,?_,?_⟩
  ·omega
  ·exact iZ.FD _
  ·exact WK
 clear hl g0 g3 g4 g18 g19 g20 ts;rintro k_ ts H ⟨i,ng,mg,cs,rfl,hl,g0,g3,g4,g11,g13,g50,g51,rfl,hi,hc,hG⟩;refine VS ?_;have iE:=hc.len;rw[jV]at iE;have MG:aN mg=true/\b7 mg=true:=by obtain⟨_,_,_,e,hm,-,-,-⟩:=id hG;simp only[AV.agg.injEq,List.cons.injEq,and_true]at e;obtain⟨-,rfl⟩:=e;exact⟨aL hm,(aY hm).2⟩
 have bG:gK a c i<2^(k+(a.length*k+1)):=QB ba bw hi;by_cases hd:i<a.length
 ·have dc:decide ((i:Int)<(a.length:Int))=true:=cF (by omega);have oF:((i:Int)<(a.length:Int))=True:=eq_true (by omega);have w1:aV .i64 ((i:Int)+1)=((i+1:Nat):Int):=by rw[wrap_i64 (by omega) (by omega)];omega
  obtain⟨n1,m1,n2,m2,e1,r1⟩:=ra.get hd;have p1:=ju (cs:=ca) (o:=i*4) (by have:=ra.len;omega);rw[e1]at p1;obtain⟨r,hr,ir⟩:=gv (E:=E) r1 iw (ba.get hd) bw (by omega);have br:=(ba.get hd).mul bw;obtain⟨n5,m5,n6,m6,_,_,rfl,-,-,-,-⟩:=bR ir;have A:=aU _ r1;have D:=aU _ ir;obtain⟨dd,nm,mm,e11,e12,u11,u12,i1⟩:=zJ (E:=E) hG ir bG br (by omega);have fK:=xe (H:=[.cells .live cs]) (b:=0) (o:=i*4) (cs:=cs) (xs:=[.bool n5,m5,.bool n6,m6]) rfl rfl (by omega) (by simp only[List.all_cons,qp,D.2.1,D.2.2.2,List.all_nil,aRg]);have oK:=hc.set (i:=i) (by rw[jV];exact hd) ir;have hsb:=Mn (cs:=cs) (xs:=[.bool n5,m5,.bool n6,m6]) (o:=i*4) (n:=4) rfl (by omega);have axG:aTa 4 (aWe (i*4) (aTa (i*4) cs++AV.bool n5::m5::AV.bool n6::m6::aWe (i*4+4) cs))=[.bool n5,m5,.bool n6,m6]:=by unfold dE at hsb;rw[aS1]at hsb;exact hsb
  have KZ:(i*4+4<=(aTa (i*4) cs).length+((aWe (i*4+4) cs).length+4))=True:=eq_true (by rw[List.length_take,List.length_drop];omega);have lJ:=Mq (cs:=cs) (xs:=[.bool n5,m5,.bool n6,m6]) (o:=i*4) (n:=4) rfl (by omega);have R6:decide (i*4+4<=cs.length)=true:=cF (by omega);have hle:(i*4+4<=cs.length)=True:=eq_true (by omega);simp only[↓aQ,aR,↓aT,aK,dt,↓reduceIte,aa,ah,ae,hl,g0,g4,g11,g13,g50,g51,oF,w1,p1,A,D,W,MG,hr,fK,axG,KZ,e11,e12,u11,u12,aLt,aS1,aMk];have WB:iZ (aTa (i*4) cs++AV.bool n5::m5::AV.bool n6::m6::aWe (i*4+4) cs) (CP (fun x _=>x*c) a a (i+1)):=by unfold dE at oK;rw[aS1]at oK;exact oK
  refine dO ?_;refine⟨_,?_,i+1,nm,mm,(aTa (i*4) cs++AV.bool n5::m5::AV.bool n6::m6::aWe (i*4+4) cs),rfl,(by simp only[cK,hl]),?_⟩
  ·first|omega|(simp;omega)
  simp only[cM,hl,aa,ae,g0,g3,g4,g11,g13,g50]
  iterate 8 refine⟨by first|trivial|rfl|(congr 1;omega)|(simp;done)|(simp;omega),?_⟩
  refine⟨?_,?_,?_⟩
  ·omega
  ·exact WB
  ·exact i1
 have dc:decide ((i:Int)<(a.length:Int))=false:=cH (by omega);obtain rfl:i=a.length:=by omega
 rw[zZ rfl]at hc;have gf:=jQ (H:=.cells .live [.bool nd,md]:: .cells .live [.bool ng,mg]::(T++[.cells .live [.bool Y1,YZ,.bool Y2,Y0],.cells .live cs])) (b:=T.length+3) (m:=a.length) (s:=4) (st:=.live) (by rw[aP2,aP2,lL rfl];rfl) (by decide) iE hc.flat;have tE:=jX C hG;by_cases h0:gK a c a.length=0
 ·rw[h0]at tE;simp only[↓aQ,aR,↓aT,aK,↓reduceIte,aa,ah,ae,hl,g4,g50,g51,dc,MG,tE];have M4:(xd 0==0)=true:=rfl;simp only[↓aQ,aR,aa,ae,hl,g13,gf,M4];refine⟨c,by unfold lN;rw[<-aeB,if_pos h0],hwp,bw.mono (by omega),cs,?_,?_⟩
  ·rw[aOT]
  ·rw[<-oE];exact hc
 ·obtain⟨w2,wN,iw2⟩:=xP (E:=E) io hG ⟨1,by omega,by decide⟩ (fF bG (by omega)) (by omega);have bw2:Bq (k+(a.length*k+1)) (aTV 1 ((gK a c a.length:Nat):Int)):=Bq.divInt (by omega) (lE (show 1<2^1 by decide) (by omega)) (by rw[aTX];exact bG);have QH:(0:Rat)<aTV 1 ((gK a c a.length:Nat):Int):=by
   rw[aWf]
   have:(0:Rat)<((gK a c a.length:Nat):Rat):=by
    have:0<gK a c a.length:=by omega
    exact_mod_cast this
   (have h9:=Cj this;exact h9)
  obtain⟨d,We⟩:∃d,d=aTV 1 ((gK a c a.length:Nat):Int):=⟨_,rfl⟩;rw[<-We]at iw2 bw2 QH;obtain⟨un0,um0,un1,um1,_,_,rfl,-,-,-,-⟩:=bR iw2;have U:=aU _ iw2;have M4:(xd ((gK a c a.length:Nat):Int)==0)=false:=by
   have:((gK a c a.length:Nat):Int)≠0:=by omega
   unfold xd;rw[if_neg this]
   split<;>rfl
  simp only[↓aQ,aR,↓aT,aK,dt,↓reduceIte,aa,ah,ae,hl,g4,g11,g13,g50,g51,dc,MG,tE,M4,ho,Mo,wN,U,aLt,aMk];rw[oE]at hc;obtain⟨b,hb⟩:∃b,b=a.map (fun x=>x*c):=⟨_,rfl⟩;rw[<-hb]at hc;have V9:b.length=a.length:=by rw[hb,aOT]
  have bb:BL (k+(a.length*k+1)) b:=by intro q hq;rw[hb,List.mem_map]at hq;obtain⟨x,hx,rfl⟩:=hq;exact(ba x hx).mul bw
  refine fh (fun k_ ts H=>∃i es,k_=a.length-i/\ts.length=97/\gt ts 11=.b6 (T.length+2) 0/\gt ts 13=.aI (T.length+3) 0 a.length 4 a.length/\gt ts 82=.int .i64 (a.length:Int)/\gt ts 83=.int .i64 (i:Int)/\H=.cells .live [.bool nd,md]:: .cells .live [.bool ng,mg]::(T++[.cells .live [.bool un0,um0,.bool un1,um1],.cells .live es])/\(i<=a.length)/\(iZ es (LH (fun x=>x*d) b i))) (a.length) ?_ ?_
  rotate_left
  ·refine⟨0,cs,(by first|omega|rfl|(simp;done)),(by simp only[cK,hl]),?_⟩;simp only[cM,hl,aa,ae,g11,g13]
   iterate 5 refine⟨by first|trivial|rfl|(congr 1;omega)|(simp;done)|(simp;omega),?_⟩
   refine⟨?_,?_⟩
   ·omega
   ·exact hc
  clear hl g0 g3 g4 g11 g13 g50 g51 ts;rintro k_ ts H ⟨i,es,rfl,hl,g11,g13,g82,g83,rfl,hi3,he⟩;refine VS ?_;have A9:=he.len;rw[pX,V9]at A9;by_cases hd:i<a.length
  ·have dc:decide ((i:Int)<(a.length:Int))=true:=cF (by omega);have oF:((i:Int)<(a.length:Int))=True:=eq_true (by omega);have w1:aV .i64 ((i:Int)+1)=((i+1:Nat):Int):=by rw[wrap_i64 (by omega) (by omega)];omega
   obtain⟨n1,m1,n2,m2,e1,r1⟩:=he.get (i:=i) (by rw[pX];omega);rw[EO (by omega) (by omega),if_neg (by omega)]at r1;have hle:(i*4+4<=es.length)=True:=eq_true (by omega);obtain⟨r,hr,ir⟩:=gv (E:=E) r1 iw2 (bb.get (i:=i) (by omega)) bw2 (by omega);obtain⟨n5,m5,n6,m6,_,_,rfl,-,-,-,-⟩:=bR ir;have A:=aU _ r1;have D:=aU _ ir;have oK:=he.set (i:=i) (by rw[pX];omega) ir;have R6:decide (i*4+4<=es.length)=true:=cF (by omega);have WB:iZ (aTa (i*4) es++AV.bool n5::m5::AV.bool n6::m6::aWe (i*4+4) es) (LH (fun x=>x*d) b (i+1)):=by unfold dE at oK;rw[aS1]at oK;exact oK
   simp only[↓aQ,aR,↓aT,aK,dt,↓reduceIte,aa,ah,ae,hl,g11,g13,g82,g83,oF,w1,A,D,U,hr,hle,e1,aS1];refine dO ?_;refine⟨_,?_,i+1,(aTa (i*4) es++AV.bool n5::m5::AV.bool n6::m6::aWe (i*4+4) es),rfl,(by simp only[cK,hl]),?_⟩
   ·first|omega|(simp;omega)
   simp only[cM,hl,aa,ae,g11,g13,g82]
   iterate 5 refine⟨by first|trivial|rfl|(congr 1;omega)|(simp;done)|(simp;omega),?_⟩
   refine⟨?_,?_⟩
   ·omega
   ·exact WB
  have dc:decide ((i:Int)<(a.length:Int))=false:=cH (by omega);obtain rfl:i=a.length:=by omega
  rw[<-V9,W1]at he;have gf:=jQ (H:=.cells .live [.bool nd,md]:: .cells .live [.bool ng,mg]::(T++[.cells .live [.bool un0,um0,.bool un1,um1],.cells .live es])) (b:=T.length+3) (m:=a.length) (s:=4) (st:=.live) (by rw[aP2,aP2,lL rfl];rfl) (by decide) A9 he.flat;simp only[↓aQ,aR,↓reduceIte,aa,ae,hl,g13,g82,g83,dc,gf];have he2:b.map (fun x=>x*d)=a.map (fun x=>x*(c*d)):=by rw[hb,List.map_map];apply List.map_congr_left;intro x _;exact Rat.mul_assoc _ _ _
  rw[he2]at he;exact⟨c*d,by unfold lN;rw[<-aeB,if_neg h0,We],Rat.mul_pos hwp QH,(bw.mul bw2).mono (by omega),es,by rw[aOT],he⟩
theorem QP{a b:Nat}:lcB a b=Nat.lcm a b:=by unfold lcB Nat.lcm;rw[Nat.mul_div_assoc _ (aWd a b)]
theorem QQ{a:List Rat}{D:Nat}(h:∀i,i<a.length->(a.getD i 0).den∣D):∀{i:Nat},i<=a.length->Dd a i∣D
 |0,_=>Nat.one_dvd _
 |i+1,hi=>by
  rw[Dd,QP];exact Nat.lcm_dvd (QQ h (by omega)) (h i (by omega))
theorem Qo{a:List Rat}:∀{i j:Nat},j<i->(a.getD j 0).den∣Dd a i
 |0,_,h=>by omega
 |i+1,j,h=>by
  rw[Dd,QP];by_cases e:j=i
  ·subst e;exact Nat.dvd_lcm_right _ _
  ·exact Nat.dvd_trans (Qo (by omega)) (Nat.dvd_lcm_left _ _)
theorem VQ{a:List Rat}{c:Rat}:∀{i j:Nat},j<i->gK a c i∣(a.getD j 0*c).num.natAbs
 |0,_,h=>by omega
 |i+1,j,h=>by
  rw[gK];by_cases e:j=i
  ·subst e;exact aWd _ _
  ·exact Nat.dvd_trans (Nat.gcd_dvd_left _ _) (VQ (by omega))
theorem QX(x:Rat):(x.num:Rat)/(x.den:Rat)=x:=by
 have h1:(x.num:Rat)/((x.den:Int):Rat)=x:=by rw[<-aWf,Rat.num_divInt_den]
 exact h1
theorem VI{x:Rat}{A D:Int}(hD:D≠0)(h:x=(A:Rat)/(D:Rat)):x.den∣D.natAbs:=by
 have hD':(D:Rat)≠0:=fun e=>hD (by exact_mod_cast e)
 have We:(x.den:Rat)≠0:=fun e=>x.den_nz (by exact_mod_cast e)
 have h1:(x.num:Rat)/(x.den:Rat)=x:=QX x;have h2:(x.num:Rat)*(D:Rat)=(A:Rat)*(x.den:Rat):=by
  have h3:(x.num:Rat)=x*(x.den:Rat):=by rw[<-h1];grind
  rw[h3,h];grind
 have h4:x.num*D=A*(x.den:Int):=by exact_mod_cast h2
 have h5:x.den∣x.num.natAbs*D.natAbs:=by rw[<-aVS,h4,aVS,aTX];exact Nat.dvd_mul_left _ _
 exact Nat.Coprime.dvd_of_dvd_mul_left x.reduced.symm h5
theorem Ik{a:List Rat}{k:Nat}(h:dN.CV k (fun c=>a.getD c 0)):dN.CV k (fun c=>(a.map (fun x=>x*lN a)).getD c 0):=by
 obtain⟨D,A,d0,d1,d2'⟩:=h;have d2:∀c,a.getD c 0=(A c:Rat)/(D:Rat)/\(A c).natAbs<=2^k:=d2';have hdv:Dd a a.length∣D.natAbs:=QQ (fun i hi=>VI d0 (d2 i).1) (aLr _);obtain⟨m,hm⟩:=hdv;obtain⟨L,hL⟩:∃L,L=Dd a a.length:=⟨_,rfl⟩;have hLp:0<L:=hL▸xO;rw[<-hL]at hm;have Ev:0<m:=by
  rcases Nat.eq_zero_or_pos m with e|e
  ·rw[e,Nat.mul_zero]at hm;omega
  ·exact e
 have key:∀c,∃y:Int,a.getD c 0*(L:Rat)=(y:Rat)/\y.natAbs<=2^k:=by
  intro c;by_cases hc:c<a.length
  ·have T2:(a.getD c 0).den∣L:=hL▸Qo hc;obtain⟨t,ht⟩:=T2;have We:((a.getD c 0).den:Rat)≠0:=fun e=>(a.getD c 0).den_nz (by exact_mod_cast e)
   have h1:((a.getD c 0).num:Rat)/((a.getD c 0).den:Rat)=a.getD c 0:=QX _;have hy:a.getD c 0*(L:Rat)=(((a.getD c 0).num*(t:Int):Int):Rat):=by
    have h3:((a.getD c 0).num:Rat)=a.getD c 0*((a.getD c 0).den:Rat):=by
     conv=>rhs;rw[<-h1]
     grind
    have h4:(L:Rat)=((a.getD c 0).den:Rat)*(t:Rat):=by rw[ht];exact_mod_cast rfl
    rw[h4,aVR,h3];have h5:(((t:Nat):Int):Rat)=(t:Rat):=rfl;rw[h5];grind
   refine⟨_,hy,?_⟩;have hD':=dN.iK d0;have hA:(A c:Rat)=a.getD c 0*(D:Rat):=by rw[(d2 c).1];grind
   have hAy:(A c).natAbs=((a.getD c 0).num*(t:Int)).natAbs*m:=by
    rcases Int.natAbs_eq D with e|e
    ·have h6:(A c:Rat)=((((a.getD c 0).num*(t:Int))*(m:Int):Int):Rat):=by
      rw[hA,e,hm,aVR,<-hy];have h7:(((L*m:Nat):Int):Rat)=(L:Rat)*(m:Rat):=by exact_mod_cast rfl
      have h8:(((m:Nat):Int):Rat)=(m:Rat):=rfl;rw[h7,h8];grind
     have h9:A c=((a.getD c 0).num*(t:Int))*(m:Int):=by exact_mod_cast h6
     rw[h9,aVS,aTX]
    ·have h6:(A c:Rat)=((-(((a.getD c 0).num*(t:Int))*(m:Int)):Int):Rat):=by
      rw[hA,e,hm,Rat.intCast_neg,Rat.intCast_neg,aVR,<-hy];have h7:(((L*m:Nat):Int):Rat)=(L:Rat)*(m:Rat):=by exact_mod_cast rfl
      have h8:(((m:Nat):Int):Rat)=(m:Rat):=rfl;rw[h7,h8];grind
     have h9:A c= -(((a.getD c 0).num*(t:Int))*(m:Int)):=by exact_mod_cast h6
     rw[h9,Int.natAbs_neg,aVS,aTX]
   have h10:=(d2 c).2;have h11:((a.getD c 0).num*(t:Int)).natAbs*1<=((a.getD c 0).num*(t:Int)).natAbs*m:=Nat.mul_le_mul_left _ Ev;omega
  ·refine⟨0,?_,by simp⟩
   have:a.getD c 0=0:=by rw[aSW,aLB (by omega)];rfl
   rw[this]
   simp
 have iL:∀(q:Rat) c,(a.map (fun x=>x*q)).getD c 0=a.getD c 0*q:=by
  intro q c;rw[aSW,List.getElem?_map,aSW];cases a[c]? with
  |none=>simp
  |some x=>rfl
 have one_le:(1:Int).natAbs<=2^k:=Nat.one_le_two_pow;unfold lN;rw[<-hL];by_cases h0:gK a (L:Rat) a.length=0
 ·rw[if_pos h0];obtain⟨Y,hY⟩:=Classical.skolem.1 key;exact⟨1,Y,by decide,one_le,fun c=>⟨by show(a.map (fun x=>x*_)).getD c 0=_;rw[iL,(hY c).1];simp only[aWg];grind,(hY c).2⟩⟩
 ·rw[if_neg h0];obtain⟨g,hg⟩:∃g,g=gK a (L:Rat) a.length:=⟨_,rfl⟩;rw[<-hg]at h0⊢;have hgq:(g:Rat)≠0:=fun e=>h0 (by exact_mod_cast e)
  have ayt:∀c,∃y:Int,a.getD c 0*((L:Rat)*aTV 1 (g:Int))=(y:Rat)/\y.natAbs<=2^k:=by
   intro c;obtain⟨y,hy,hyk⟩:=key c;have hgy:g∣y.natAbs:=by
    by_cases hc:c<a.length
    ·have:=VQ (a:=a) (c:=(L:Rat)) hc
     rw[hy,Rat.num_intCast,<-hg]at this;exact this
    ·have:a.getD c 0=0:=by rw[aSW,aLB (by omega)];rfl
     rw[this,Rat.zero_mul]at hy
     have:y=0:=by exact_mod_cast hy.symm
     rw[this];exact Nat.dvd_zero _
   obtain⟨z,hz⟩:=Int.dvd_natAbs.1 (aSZ.2 hgy);refine⟨z,?_,?_⟩
   ·rw[<-Rat.mul_assoc,hy,hz,aWf,aVR];have h8:(((g:Nat):Int):Rat)=(g:Rat):=rfl;rw[h8];simp only[aWg]
    grind
   ·rw[hz,aVS,aTX]at hyk;have h11:1*z.natAbs<=g*z.natAbs:=Nat.mul_le_mul_right _ (by omega);omega
  obtain⟨Y,hY⟩:=Classical.skolem.1 ayt;exact⟨1,Y,by decide,one_le,fun c=>⟨by show(a.map (fun x=>x*_)).getD c 0=_;rw[iL,(hY c).1];simp only[aWg];grind,(hY c).2⟩⟩
theorem Rx{v u:AV}{a b:List Rat}(h:gy v a)(h':gy u b)(JX:b.length=a.length)(AA:a.length<=1000){k l:Nat}(ba:BL k a)(bb:BL l b)(hk:k+l<=10000000):aO E 130 [u,.eU [v] 0]=some (.bool (decide (eF a b a.length≠0))):=by
 suffices hh:∃r,aO E 130 [u,.eU [v] 0]=some r/\r=.bool (decide (eF a b a.length≠0))by obtain⟨r,h1,rfl⟩:=hh;exact h1
 obtain⟨r,hr,ir⟩:=xy (E:=E) h h' JX AA ba bb hk;have s1:=jh (E:=E) ir;have pv:=h.pure;have pu:=h'.pure;have pr:=jm ir;have z1:=An (eF a b a.length);refine tS amR ?_;intro ts hl g0 g1;unfold alH;obtain⟨ca,rfl,ra⟩:=h;obtain⟨cb,rfl,rb⟩:=h';simp only[↓aQ,aR,↓aT,aK,aa,ae,Tryz.f130,hl,g0,g1,hr,s1,pr,z1];by_cases h0:eF a b a.length=0<;>simp[h0]
theorem Mr{v u w:AV}{Q9 Q7 Ra Q8}{a b d:List Rat}{p:Rat}(h:gy v a)(h':gy u b)(hw:gy w d)(hp:cX (.agg [.bool Q9,Q7,.bool Ra,Q8]) p)(JX:b.length=a.length)(B7:d.length=b.length)(AA:a.length<=8){k l:Nat}(ba:BL k a)(bb:BL k b)(bd:BL k d)(bp:Bq l p)(hp0:p≠0)(hk:2*k<=10000000)(vg:l<=1000000000):∃r,aO E 167 [u,.eU [v] 0,.eU [.bool Q9,Q7,.bool Ra,Q8] 0,.eU [w] 0]=some r/\gy r (aU3 (fun x y=>x*1+y*(-(eF a b a.length/p))) b d):=by obtain⟨r,hr,ir⟩:=xy (E:=E) h h' JX (by omega) ba bb (by omega);have alj:Bq (8*10000001+1) (eF a b a.length):=(xz ba bb JX (aLr _)).mono (Nat.succ_le_succ (Nat.mul_le_mul AA (by omega)));obtain⟨q,hq,iq⟩:=xU (E:=E) ir hp alj bp (by omega) hp0;obtain⟨FJ,FH,FK,FI,_,_,rfl,-,-,-,-⟩:=bR iq;obtain⟨o,ho,io⟩:=jJ (E:=E) (n:=1) (by omega) (by omega);obtain⟨g,hg,ig⟩:=ru (E:=E) iq;have bq:=(alj.div bp hp0);obtain⟨m,hm,im⟩:=GD (E:=E) h' io hw ig B7 (by omega) bb bd (l:=8*10000001+1+l) (Bq.int (z:=1) (lE (show(1:Int).natAbs<2^1 by decide) (by omega)) (by omega)) bq.neg (by omega);have pv:=h.pure;have pu:=h'.pure;have pr:=jm ir;have po:=jm io;have pg:=jm ig;have Q:=aU _ iq;have P:=aU _ hp;refine gw4 am7 ?_;intro ts hl g0 g1 g2 g3;unfold alR;obtain⟨ca,rfl,ra⟩:=h;obtain⟨cb,rfl,rb⟩:=h';obtain⟨cd,rfl,rd⟩:=hw;have hpn:iR true 4 [.bool Q9,Q7,.bool Ra,Q8] 0=some (.agg [.bool Q9,Q7,.bool Ra,Q8]):=rfl;simp only[↓aQ,aR,↓aT,aK,↓reduceIte,aa,ah,ae,Tryz.f167,hl,g0,g1,g2,g3,hr,hq,ho,hg,hm,pr,po,pg,Q,P,hpn,im.pure,wZ];exact im
theorem La{v:AV}{a:List Rat}{vs:List AV}{rows:List (List Rat)}{n:Nat}(h:gy v a)(hm:oH vs rows n)(hn:a.length=n)(AA:n<=8)(hR:rows.length<=1000){k l:Nat}(ba:BL k a)(bb:mR l rows)(hk:k+l<=10000000):
  ∃z:Int,aO E 129 [.aJ vs rows.length,.func 130 [] [.eU [v] 0]]=some (.int .i64 z)/\((z= -1/\∀i,i<rows.length->eF a (row rows i) n=0)∨∃i,i<rows.length/\z=(i:Int)/\eF a (row rows i) n≠0):=by
 suffices hh:∃r,aO E 129 [.aJ vs rows.length,.func 130 [] [.eU [v] 0]]=some r/\∃z:Int,r=(.int .i64 z)/\((z= -1/\∀i,i<rows.length->eF a (row rows i) n=0)∨∃i,i<rows.length/\z=(i:Int)/\eF a (row rows i) n≠0)by
  obtain⟨r,h1,z,rfl,h2⟩:=hh;exact⟨z,h1,h2⟩
 have wH:=fun{dr st:Bool} {bl:List AV} {H:Hp} {k:AV->cJ->Prop}=>lu (E:=E) (dr:=dr) (st:=st) (f:=130) (bl:=bl) (H:=H) (k:=k) (cn C (by kernel_rfl))
 have pv:=h.pure;have hvl:vs.length=rows.length:=hm.1;refine tS aeq ?_;intro ts hl g0 g1;unfold agu;simp only[↓aQ,aR,aK,aa,ae,Tryz.f129,aB,hl,g0];refine fh (fun k_ ts H=>∃i,k_=rows.length-i/\ts.length=19/\gt ts 0=.aJ vs rows.length/\gt ts 1=.func 130 [] [.eU [v] 0]/\gt ts 7=.int .i64 (rows.length:Int)/\gt ts 8=.int .i64 (i:Int)/\H=[]/\(i<=rows.length)/\(∀j,j<i->eF a (row rows j) n=0)) (rows.length) ?_ ?_
 rotate_left
 ·refine⟨0,(by first|omega|rfl|(simp;done)),(by simp only[cK,hl]),?_⟩;simp only[cM,hl,aa,ae,g0,g1]
  iterate 5 refine⟨by first|trivial|rfl|(congr 1;omega)|(simp;done)|(simp;omega),?_⟩
  refine⟨?_,?_⟩
  ·omega
  ·intro j hj;omega
 clear hl g0 g1 ts;rintro k_ ts H ⟨i,rfl,hl,g0,g1,g7,g8,rfl,hi,hz⟩;refine VS ?_;by_cases hd:i<rows.length
 ·have dc:decide ((i:Int)<(rows.length:Int))=true:=cF (by omega);have oF:((i:Int)<(rows.length:Int))=True:=eq_true (by omega);have w1:aV .i64 ((i:Int)+1)=((i+1:Nat):Int):=by rw[wrap_i64 (by omega) (by omega)];omega
  obtain⟨hr,Si⟩:=hm.2 i hd;have p1:=dL (vs:=vs) (i:=i) (by omega);have hc:=Rx (E:=E) h hr (by omega) (by omega) ba (bb i hd) hk;have pr:=hr.pure;rw[hn]at hc;by_cases h0:eF a (row rows i) n=0
  ·rw[cH (by simpa using h0)]at hc;simp only[↓aQ,aR,aK,↓reduceIte,aa,ae,hl,g0,g1,g7,g8,oF,w1,p1,hc,pr,wH];refine dO ?_;refine⟨_,?_,i+1,rfl,(by simp only[cK,hl]),?_⟩
   ·first|omega|(simp;omega)
   simp only[cM,hl,aa,ae,g0,g1,g7]
   iterate 5 refine⟨by first|trivial|rfl|(congr 1;omega)|(simp;done)|(simp;omega),?_⟩
   refine⟨?_,?_⟩
   ·omega
   ·intro j hj;by_cases e:j=i
    ·rw[e];exact h0
    ·exact hz j (by omega)
  ·rw[cF (by simpa using h0)]at hc;simp only[↓aQ,aR,aK,↓reduceIte,aa,ae,aB,hl,g0,g1,g7,g8,oF,p1,hc,pr,wH];exact⟨_,rfl,.inr ⟨i,hd,rfl,h0⟩⟩
 ·have dc:decide ((i:Int)<(rows.length:Int))=false:=cH (by omega);simp only[↓aQ,aR,↓reduceIte,aa,aB,hl,g7,g8,dc];exact⟨_,rfl,.inl ⟨rfl,fun j hj=>hz j (by omega)⟩⟩
end Go.Proofs.YtblnjkjjedanaaaGreatDoor
namespace Go.Proofs.YtblnjkjjedanaaaGreatDoor
open Go Dv
open Go.Proofs.dN
variable{E:Env}[C:Ctx E]
theorem sQ{l:List Rat}{n c:Nat}(h:l.length=n)(hc:n<=c):l.getD c 0=0:=by rw[aSW,aLB (by omega)];rfl
theorem qW{a b:List Rat}{g:Rat->Rat->Rat}(h:a.length=b.length)(h0:g 0 0=0)(c:Nat):(aU3 g a b).getD c 0=g (a.getD c 0) (b.getD c 0):=by
 simp only[aSW,List.getElem?_zipWith];by_cases hc:c<a.length
 ·rw[aMh hc,aMh (by omega:c<b.length)];rfl
 ·rw[aLB (by omega),aLB (by omega)];exact h0.symm
def iX(rows:List (List Rat))(w:Nat):Prop:=∀i,i<rows.length->(row rows i).length=w
theorem iX.set{rows:List (List Rat)}{w i:Nat}{q:List Rat}(h:iX rows w)(hi:i<rows.length)(hq:q.length=w):iX (rows.set i q) w:=by
 intro j hj;rw[aPp]at hj;rw[pH hi]
 split
 ·exact hq
 ·exact h j hj
theorem C5{rows:List (List Rat)}{i j c:Nat}{q:List Rat}(hi:i<rows.length):dW (rows.set i q) j c=if i=j then q.getD c 0 else dW rows j c:=by
 unfold dW;rw[pH hi]
 split<;>rfl
theorem Yp{rows:List (List Rat)}{i r:Nat}(hi:i<rows.length)(hr:r<rows.length)(j c:Nat):dW (As rows i r) j c=if j=r then dW rows i c else if j=i then dW rows r c else dW rows j c:=by
 unfold As;rw[C5 (by rw[aPp];exact hr),C5 hi];unfold dW
 grind
theorem Xc{rows:List (List Rat)}{r k:Nat}(hr:r<rows.length)(j c:Nat):dW (fQ rows r k) j c=if j=r then dW rows r c/dW rows r k else dW rows j c:=by
 unfold fQ;rw[C5 hr,qW rfl (by grind)];by_cases h:j=r
 ·subst h;rw[if_pos rfl,if_pos rfl];rfl
 ·rw[if_neg (fun e=>h e.symm),if_neg h]
theorem D6{rows:List (List Rat)}{r k w:Nat}(hw:iX rows w)(hr:r<rows.length):∀{m:Nat},m<=rows.length->iX (eW rows r k m) w
 |0,_=>hw
 |m+1,hm=>by
  have h1:=D6 (k:=k) hw hr (m:=m) (by omega);have h2:(eW rows r k m).length=rows.length:=qX;rw[eW]
  split
  ·refine h1.set (by omega) ?_;rw[aU6,h1 m (by omega),h1 r (by omega),Nat.min_self]
  ·exact h1
theorem KF{rows:List (List Rat)}{r k w:Nat}(hw:iX rows w)(hr:r<rows.length):∀{m:Nat},m<=rows.length->∀j c,dW (eW rows r k m) j c=if j<m/\j≠r then dW rows j c-dW rows j k*dW rows r c else dW rows j c
 |0,_,j,c=>by rw[if_neg (by omega)];rfl
 |m+1,hm,j,c=>by
  have hl:(eW rows r k m).length=rows.length:=qX;have h1:=KF hw hr (k:=k) (m:=m) (by omega);have vM:=D6 (k:=k) hw hr (m:=m) (by omega);have em:∀c,dW (eW rows r k m) m c=dW rows m c:=fun c=>by rw[h1,if_neg (by omega)]
  have er:∀c,dW (eW rows r k m) r c=dW rows r c:=fun c=>by rw[h1,if_neg (by omega)]
  rw[eW];by_cases hc:m≠r/\dW (eW rows r k m) m k≠0
  ·rw[if_pos hc,C5 (by omega)];by_cases hj:m=j
   ·subst hj;rw[if_pos rfl,if_pos ⟨by omega,hc.1⟩,qW (by rw[vM m (by omega),vM r (by omega)]) (by grind),em];have a1:=em c;have a2:=er c;unfold dW at a1 a2⊢;rw[a1,a2]
   ·rw[if_neg hj,h1];by_cases T4:j<m/\j≠r
    ·rw[if_pos T4,if_pos (by omega)]
    ·rw[if_neg T4,if_neg (by omega)]
  ·rw[if_neg hc,h1];by_cases hj:j<m/\j≠r
   ·rw[if_pos hj,if_pos (by omega)]
   ·rw[if_neg hj];by_cases T4:j<m+1/\j≠r
    ·rw[if_pos T4]
     have:j=m:=by omega
     subst this;have h3:dW (eW rows r k j) j k=0:=Classical.byContradiction (fun hh=>hc ⟨T4.2,hh⟩);rw[em]at h3;rw[h3];grind
    ·rw[if_neg T4]
theorem acB{eZ:List (List Rat)}{k w:Nat}{rows:List (List Rat)}{fq:List Nat}(h:Dr eZ k rows fq)(hw:iX eZ w):rows.length=eZ.length/\iX rows w/\St w rows.length k fq.length (fun t=>t) (fun i=>dW rows i) (fun i=>fq.getD i 0) (eK (SR eZ.length (fun i=>dW eZ i))):=by
 induction h with
 |start=>
  refine⟨rfl,hw,?_⟩;exact⟨by simp,fun i h=>by simp at h,fun i j _ h=>by simp at h,fun i j _ h=>by simp at h,fun i j h=>by simp at h,fun i j _ _ h=>by omega,fun x=>Iff.rfl⟩
 |skip h hp hz ih=>
  obtain⟨h1,h2,h3⟩:=ih;exact⟨h1,h2,h3.skip (fun i hi hM=>hz i hi hM)⟩
 |@Fe k i rows rows' fq h hi hl hn hz hs ih=>
  obtain⟨h1,h2,h3⟩:=ih;have hr:fq.length<rows.length:=by omega
  have hlen:rows'.length=rows.length:=by
   rw[hs];split
   ·unfold As;rw[aPp,aPp]
   ·rfl
  have hw':iX rows' w:=by
   rw[hs];split
   ·unfold As;exact(h2.set hl (h2 _ hr)).set (by rw[aPp];exact hr) (h2 i hl)
   ·exact h2
  have he:∀j,j<rows.length->∀c,dW rows' j c=if j=fq.length then dW rows i c else if j=i then dW rows fq.length c else dW rows j c:=by
   intro j hj c;rw[hs]
   split
   ·rw[Yp hl hr]
   ·rename_i e;have e:i=fq.length:=Classical.byContradiction e;subst e
    split
    ·rename_i e2;rw[e2]
    ·rfl
  have s1:=h3.swap hi hl (g:=fun j=>dW rows' j) he;have dM:dW rows' fq.length k≠0:=by rw[he _ hr,if_pos rfl];exact hn
  have J3:(fQ rows' fq.length k).length=rows.length:=by unfold fQ;rw[aPp,hlen]
  have hnw:iX (fQ rows' fq.length k) w:=by unfold fQ;refine hw'.set (by omega) ?_;rw[aU6,hw' _ (by omega),Nat.min_self]
  have A9:(eW (fQ rows' fq.length k) fq.length k rows.length).length=rows.length:=by rw[qX,J3]
  have hg:∀j,j<rows.length->∀c,dW (eW (fQ rows' fq.length k) fq.length k rows.length) j c=if j=fq.length then dW rows' fq.length c/dW rows' fq.length k else dW rows' j c-dW rows' j k*(dW rows' fq.length c/dW rows' fq.length k):=by
   intro j hj c;rw[KF hnw (by omega) (by omega)];simp only[Xc (rows:=rows') (r:=fq.length) (k:=k) (by omega),if_true];by_cases e:j=fq.length
   ·rw[if_neg (by omega),if_pos e]
    try rw[if_pos e]
   ·rw[if_pos ⟨hj,e⟩,if_neg e]
    try rw[if_neg e,if_neg e]
  have s2:=s1.Fe (g:=fun j=>dW (eW (fQ rows' fq.length k) fq.length k rows.length) j) hr dM hg;refine⟨by rw[A9,h1],D6 hnw (by omega) (by omega),?_⟩;rw[A9,aMk];have hP:∀j,j<fq.length+1->(fq++[k]).getD j 0=if j=fq.length then k else fq.getD j 0:=by
   intro j hj;rw[aSW];by_cases e:j=fq.length
   ·rw[if_pos e,e,aUV (by omega),Nat.sub_self];rfl
   ·rw[if_neg e,aOB (by omega),aSW]
  refine⟨s2.le,fun i hi=>?_,fun i j FE hj=>?_,fun i j hi hj=>?_,fun i t hi ht=>?_,s2.zero,s2.span⟩
  ·rw[hP i hi];exact s2.lt i hi
  ·have h5:j<fq.length+1:=hj;rw[hP i (by omega),hP j hj];exact s2.mono i j FE hj
  ·rw[hP j hj];exact s2.one i j hi hj
  ·rw[hP i hi]at ht;exact s2.low i t hi ht
theorem XE{eZ:List (List Rat)}{k w:Nat}{rows:List (List Rat)}{fq:List Nat}(h:Dr eZ k rows fq)(hw:iX eZ w)(hk:k<=w)(K8:k=w∨fq.length=rows.length):kU w fq.length (fun i=>dW rows i) (fun i=>fq.getD i 0) (eK (SR eZ.length (fun i=>dW eZ i))):=by
 obtain⟨h1,h2,h3⟩:=acB h hw;refine h3.ech hk (fun i hi hM c=>?_);rcases K8 with e|e
 ·by_cases hc:c<w
  ·exact h3.zero i c hi hM (by omega)
  ·exact sQ (h2 i hM) (by omega)
 ·omega
end Go.Proofs.YtblnjkjjedanaaaGreatDoor
namespace Go.Proofs.YtblnjkjjedanaaaGreatDoor
open Go Dv Dv.bV
variable{E:Env}[C:Ctx E]
def qw(H:Hp)(B:Nat)(x:AV)(q:List Rat):Prop:=(∃cs,x=.aJ cs q.length/\iZ cs q)∨∃c st cs,x=.aI c 0 q.length 4 q.length/\B<c/\c<H.length/\H[c]?=some (.cells st cs)/\st≠ .dead/\iZ cs q
def nX(H:Hp)(B n:Nat)(v:AV)(rows:List (List Rat)):Prop:=(rows=[]/\v=.aH)∨(0<rows.length/\∃b st hs,v=.aI b 0 rows.length 1 rows.length/\B<b/\b<H.length/\H[b]?=some (.cells st hs)/\st≠ .dead/\hs.length=rows.length/\∀j,j<rows.length->qw H B (hs.getD j aX) (row rows j)/\(row rows j).length=n)
def nK(B:Nat)(H H2:Hp):Prop:=(H.length<=H2.length/\∀k,k<B->k<H.length->H2[k]?=H[k]?)/\∀k st cs,k≠B->H[k]?=some (.cells st cs)->st≠ .dead->∃st',st'≠ .dead/\H2[k]?=some (.cells st' cs)
theorem nK.refl{B:Nat}{H:Hp}:nK B H H:=⟨⟨aLr _,fun _ _ _=>rfl⟩,fun k st cs _ h hd=>⟨st,hd,h⟩⟩
theorem nK.trans{B:Nat}{H H2 H3:Hp}(h:nK B H H2)(h':nK B H2 H3):nK B H H3:=by refine⟨⟨Nat.le_trans h.1.1 h'.1.1,fun k hk hl=>(h'.1.2 k hk (aNU hl h.1.1)).trans (h.1.2 k hk hl)⟩,fun k st cs hk e hd=>?_⟩;obtain⟨st',d',e'⟩:=h.2 k st cs hk e hd;exact h'.2 k st' cs hk e' d'
theorem nK.app{B:Nat}{H:Hp}(l:Hp):nK B H (H++l):=by refine⟨⟨by rw[aMk];omega,fun k _ hl=>aOB hl⟩,fun k st cs hk e hd=>⟨st,hd,?_⟩⟩;obtain⟨gO,-⟩:=List.getElem?_eq_some_iff.1 e;rw[aOB gO];exact e
theorem PO{st:iH}{cs:List AV}(hd:st≠ .dead):∃st',st'≠ .dead/\cG.nN (.cells st cs)=.cells st' cs:=by
 cases st with
 |live=>exact⟨.ro,by decide,rfl⟩
 |ro=>exact⟨.ro,by decide,rfl⟩
 |dead=>exact absurd rfl hd
theorem O0{H:Hp}{bs:List Nat}{k:Nat}{st:iH}{cs:List AV}(e:H[k]?=some (.cells st cs))(hd:st≠ .dead):∃st',st'≠ .dead/\(Dv.mark H bs)[k]?=some (.cells st' cs):=by
 rw[iF];by_cases hm:k∈bs
 ·rw[if_pos hm,e];obtain⟨st',h1,h2⟩:=PO (cs:=cs) hd;exact⟨st',h1,by rw[Option.map_some,h2]⟩
 ·rw[if_neg hm];exact⟨st,hd,e⟩
theorem ub{H:Hp}{bs:List Nat}{k:Nat}(h:k∉bs):(Dv.mark H bs)[k]?=H[k]?:=by rw[iF,if_neg h]
theorem nK.mark{B:Nat}{H:Hp}(bs:List Nat)(hb:∀b∈bs,B<b):nK B H (Dv.mark H bs):=
 ⟨⟨by rw[k6];exact aLr _,fun k hk _=>ub (fun h=>by have:=hb k h;omega)⟩,fun k st cs _ e hd=>O0 e hd⟩
theorem nK.set{B:Nat}{H:Hp}(x:cG):nK B H (H.set B x):=
 ⟨⟨by rw[aPp];exact aLr _,fun k hk _=>aN9 (by omega)⟩,fun k st cs hk e hd=>⟨st,hd,by rw[aN9 (fun h=>hk h.symm)];exact e⟩⟩
theorem qw.mono{H H2:Hp}{B:Nat}{x:AV}{q:List Rat}(h:qw H B x q)(hl:nK B H H2):qw H2 B x q:=by
 rcases h with h|⟨c,st,cs,e,hc,gO,h1,h2,h3⟩
 ·exact .inl h
 ·obtain⟨st',d',e'⟩:=hl.2 c st cs (by omega) h1 h2;exact .inr ⟨c,st',cs,e,hc,aNU gO hl.1.1,e',d',h3⟩
theorem nX.mono{H H2:Hp}{B n:Nat}{v:AV}{rows:List (List Rat)}(h:nX H B n v rows)(hl:nK B H H2):nX H2 B n v rows:=by
 rcases h with h|⟨h0,b,st,hs,e,hb,gO,h1,h2,h3,h4⟩
 ·exact .inl h
 ·obtain⟨st',d',e'⟩:=hl.2 b st hs (by omega) h1 h2;exact .inr ⟨h0,b,st',hs,e,hb,aNU gO hl.1.1,e',d',h3,fun j hj=>⟨(h4 j hj).1.mono hl,(h4 j hj).2⟩⟩
theorem qw.fz{H:Hp}{B:Nat}{x:AV}{q:List Rat}(h:qw H B x q)(m:Nat):∃cs bs,fz H (m+2) x=some (.aJ cs q.length,bs)/\iZ cs q/\∀b∈bs,B<b/\b<H.length:=by
 rcases h with⟨cs,rfl,hc⟩|⟨c,st,cs,rfl,hB,gO,h1,h2,h3⟩
 ·exact⟨cs,[],rfl,hc,by simp⟩
 ·have h6:=kD (n:=m+1) (off:=0) (len:=q.length) (esz:=4) (k:=q.length) h1 h2 (by rw[h3.len];omega) (by rw[aQh,<-h3.len,aR7];exact fj h3.flat);rw[gn,dH]at h6;exact⟨cs,[c],h6,h3,by intro b hb;rw[aNq]at hb;subst hb;exact⟨hB,gO⟩⟩
theorem nX.fz{H:Hp}{B n:Nat}{v:AV}{rows:List (List Rat)}(h:nX H B n v rows)(h0:0<rows.length)(m:Nat):∃vs bs,fz H (m+3) v=some (.aJ vs rows.length,bs)/\oH vs rows n/\∀b∈bs,B<b/\b<H.length:=by
 rcases h with⟨e,-⟩|⟨-,b,st,hs,e1,hB,gO,h1,h2,h3,h4⟩
 ·rw[e]at h0;exact absurd h0 (by simp)
 ·have key:∀(l:List AV),(∀x∈l,∃q,qw H B x q)->∃r,dh (Dv.fz H (m+2)) l=some r/\r.length=l.length/\(∀j,j<l.length->∃q,qw H B (l.getD j aX) q/\Dv.fz H (m+2) (l.getD j aX)=some ((r.map (·.1)).getD j aX,((r.map (·.2)).getD j [])))/\∀b∈r.flatMap (·.2),B<b/\b<H.length:=by
   intro l;induction l with
   |nil=>intro _;exact⟨[],rfl,rfl,by simp,by simp⟩
   |cons x l ih=>
    intro hx;obtain⟨r,wJ,yp,Bb,Wx⟩:=ih fun y hy=>hx y (by simp[hy])
    obtain⟨q,hq⟩:=hx x (by simp);obtain⟨cs,bs,f1,f2,f3⟩:=hq.fz m;refine⟨(.aJ cs q.length,bs)::r,?_,by simp[yp],?_,?_⟩
    ·unfold dh;rw[f1,wJ]
    ·intro j hj;cases j with
     |zero=>exact⟨q,hq,f1⟩
     |succ j=>
      obtain⟨q',a1,a2⟩:=Bb j (by simpa using hj);exact⟨q',by simpa using a1,by simpa using a2⟩
    ·intro b hb;rw[List.flatMap_cons,aNg]at hb;rcases hb with hb|hb
     ·exact f3 b hb
     ·exact Wx b hb
  obtain⟨r,wJ,yp,Bb,Wx⟩:=key hs (by
   intro x hx;obtain⟨j,hj,e⟩:=List.getElem_of_mem hx
   have:=(h4 j (by omega)).1
   rw[aSW,aMh hj,aNt,e]at this;exact⟨_,this⟩)
  have h6:=kD (n:=m+2) (off:=0) (len:=rows.length) (esz:=1) (k:=rows.length) h1 h2 (by omega) (by rw[aQh,Nat.mul_one,<-h3,aR7];exact wJ);subst e1;refine⟨_,_,h6,⟨by rw[aOT,yp,h3],fun j hj=>?_⟩,?_⟩
  ·obtain⟨q,a1,a2⟩:=Bb j (by omega);obtain⟨cs,bs,f1,f2,f3⟩:=(h4 j hj).1.fz m;rw[f1]at a2;simp only[Option.some.injEq,Prod.mk.injEq]at a2;rw[<-a2.1];exact⟨⟨cs,rfl,f2⟩,(h4 j hj).2⟩
  ·intro b hb;simp only[List.mem_cons]at hb;rcases hb with rfl|hb
   ·exact⟨hB,gO⟩
   ·exact Wx b hb
theorem qw.fz2{H:Hp}{B:Nat}{x:AV}{q:List Rat}(h:qw H B x q):∃cx bs,iZ cx q/\(∀b∈bs,B<b/\b<H.length)/\∀l,(∀ca m,oG (aN x) (H++l) [.aJ ca m,x]=some ([.aJ ca m,.aJ cx q.length],bs))/\oG (aN x) (H++l) [x]=some ([.aJ cx q.length],bs):=by
 rcases h with⟨cs,rfl,hc⟩|⟨c,st,cs,rfl,hB,gO,h1,h2,h3⟩
 ·exact⟨cs,[],hc,by simp,fun l=>⟨fun ca m=>rfl,rfl⟩⟩
 ·refine⟨cs,[c],h3,by intro b hb;rw[aNq]at hb;subst hb;exact⟨hB,gO⟩,fun l=>?_⟩;have h1':(H++l)[c]?=some (.cells st cs):=by rw[aOB gO];exact h1
  have h6:=kD (n:=39) (off:=0) (len:=q.length) (esz:=4) (k:=q.length) h1' h2 (by rw[h3.len];omega) (by rw[aQh,<-h3.len,aR7];exact fj h3.flat);rw[gn,dH]at h6;refine⟨fun ca m=>?_,?_⟩
  ·show oG false _ _=_
   rw[kV];unfold bW;rw[if_neg (by simp[bE,aN])];unfold dh;rw[show Dv.fz (H++l) 40 (.aJ ca m)=some (.aJ ca m,[])from rfl];unfold dh;rw[h6];rfl
  ·show oG false _ _=_
   rw[kV];unfold bW;rw[if_neg (by simp[bE,aN])];unfold dh;rw[h6];rfl
theorem qw.fzm{H H2:Hp}{B:Nat}{x:AV}{q:List Rat}(h:qw H B x q)(hl:nK B H H2)(m:Nat):∃cs bs,Dv.fz H2 (m+2) x=some (.aJ cs q.length,bs)/\iZ cs q/\∀b∈bs,B<b/\b<H.length:=by
 rcases h with⟨cs,rfl,hc⟩|⟨c,st,cs,rfl,hB,gO,h1,h2,h3⟩
 ·exact⟨cs,[],rfl,hc,by simp⟩
 ·obtain⟨st',d',e'⟩:=hl.2 c st cs (by omega) h1 h2;have h6:=kD (n:=m+1) (off:=0) (len:=q.length) (esz:=4) (k:=q.length) e' d' (by rw[h3.len];omega) (by rw[aQh,<-h3.len,aR7];exact fj h3.flat);rw[gn,dH]at h6;exact⟨cs,[c],h6,h3,by intro b hb;rw[aNq]at hb;subst hb;exact⟨hB,gO⟩⟩
theorem IX{H:Hp}{b m:Nat}{st:iH}{cs vs:List AV}{bs:List Nat}(h:H[b]?=some (.cells st cs))(hd:st≠ .dead){r:List (AV×List Nat)}(hr:dh (Dv.fz H m) cs=some r)(h1:r.map (·.1)=vs)(h2:r.flatMap (·.2)=bs):Dv.fz H (m+1) (.b6 b 0)=some (.eU vs 0,b::bs):=by unfold Dv.fz;simp only[h];rw[if_neg hd,hr];subst h1 h2;rfl
theorem VN{H:Hp}{x rv y vx vy vr:AV}{L0 L1 L2:Nat}{s0 s1 s2:iH}{pc:List AV}{bx RC br:List Nat}(ex:Dv.fz H 40 x=some (vx,bx))(e0:H[L0]?=some (.cells s0 [rv]))(d0:s0≠ .dead)(er:Dv.fz H 39 rv=some (vr,br))(e2:H[L2]?=some (.cells s2 pc))(d2:s2≠ .dead)(hpc:∀v∈pc,Flat v)(e1:H[L1]?=some (.cells s1 [y]))(d1:s1≠ .dead)(ey:Dv.fz H 39 y=some (vy,RC)):
  oG false H [x,.b6 L0 0,.b6 L2 0,.b6 L1 0]=some ([vx,.eU [vr] 0,.eU pc 0,.eU [vy] 0],bx++(L0::br++(L2::[]++(L1::RC)))):=by
 have f0:=IX (m:=39) e0 d0 (r:=[(vr,br)]) (by unfold dh;rw[er];rfl) rfl rfl;have f1:=IX (m:=39) e1 d1 (r:=[(vy,RC)]) (by unfold dh;rw[ey];rfl) rfl rfl;have f2:=IX (m:=39) e2 d2 (fj (m:=38) hpc) (gn) (dH);rw[kV];unfold bW;rw[if_neg (by simp[bE,aN])];unfold dh;rw[ex];unfold dh;rw[f0];unfold dh;rw[f2];unfold dh;rw[f1];simp[dh]
theorem sM{H:Hp}{B:Nat}{bs:List Nat}(c:Bool)(hb:∀b∈bs,B<b/\b<H.length):∃HA:Hp,(∀l,cJ.app (H++l) (if c=true then cJ.looks bs else cJ.marks bs)=HA++l)/\nK B H HA/\HA.length=H.length/\HA[B]?=H[B]?/\∀k,k∉bs->HA[k]?=H[k]?:=by
 cases c with
 |true=>exact⟨H,fun l=>rfl,nK.refl,rfl,rfl,fun k _=>rfl⟩
 |false=>exact⟨Dv.mark H bs,fun l=>LM (fun b h=>(hb b h).2),nK.mark bs (fun b h=>(hb b h).1),k6 _ _,ub (fun h=>by have:=(hb B h).1;omega),fun k hk=>ub hk⟩
theorem Ut{s low n:Nat}{v:AV}{H:Hp}{cs:List AV}{bs:List Nat}(h:u7 s low v H n cs)(hb:∀b∈bs,b<low):u7 s low v (Dv.mark H bs) n cs:=by
 rcases h with h|⟨h0,b,h1,h2,h3,h4⟩
 ·exact .inl h
 ·exact .inr ⟨h0,b,h1,by rw[k6];exact h2,h3,by rw[ub (fun h=>by have:=hb b h;omega)];exact h4⟩
theorem zh{s low n:Nat}{v:AV}{H:Hp}{cs:List AV}(h:u7 s low v H n cs):u7 s 0 v H n cs:=by
 rcases h with h|⟨h0,b,h1,h2,h3,h4⟩
 ·exact .inl h
 ·exact .inr ⟨h0,b,Nat.zero_le _,h2,h3,h4⟩
theorem uB{s low n:Nat}{v:AV}{H:Hp}{cs:List AV}(h:u7 s low v H n cs){k:Nat}(hk:k<low)(m:Nat):v≠ .aI k 0 m s m:=by
 rcases h with⟨-,-,rfl⟩|⟨h0,b,h1,h2,rfl,h4⟩
 ·simp
 ·simp only[ne_eq,AV.aI.injEq,not_and];omega
theorem jC{α:Type}{l m:List α}{j:Nat}{d:α}(h:j<l.length):(l++m).getD j d=l.getD j d:=by rw[aSW,aOB h,<-aSW]
theorem jB{α:Type}{l:List α}{x d:α}{j:Nat}(h:j=l.length):(l++[x]).getD j d=x:=by subst h;rw[aSW,aUV (aLr _),Nat.sub_self];rfl
theorem pN{E:Env}{t s rQ aM b:Nat}{ag:Bool}{z x:List AV}{H:Hp}{st:iH}(hS:eR E t=some (ag,s,rQ,z))(hs:0<s)(hb:H[b]?=some (.cells st x))(hd:st≠ .dead)(hx:x.length=s)(hxo:x.all b7=true)(hr:1*rQ<=gq):
  aZ E H aM .append [t,t] [.aH,.aI b 0 1 s 1]=some (.aI aM 0 1 s 1,[(aM,.cells .live x)]):=by
 obtain⟨i,e,ei,h1,h2,h3,h4,h5,h6,h7⟩:=iB hS;obtain⟨cS,isAgg,size,bytes,zero,eQ⟩:=i;simp only at h2;subst h2 h5 h6;have tY:vJ H ei false (.aI b 0 1 ei.size 1)=some (1,x):=by
  have ht:aTa (1*ei.size) x=x:=by rw[Nat.one_mul,<-hx,aR7]
  simp[vJ,pV,sJ,kf,hb,hd,hx];rw[<-hx,aR7]
 have GZ:aZ E H aM .append [t,t] [.aH,.aI b 0 1 ei.size 1]=fM E H aM false t .aH (.aI b 0 1 ei.size 1):=by simp[aZ,h1]
 rw[GZ];unfold fM;simp only[h1,h3,tY];rw[if_neg (by omega),if_neg (by rw[hxo,h7];simp;omega),if_pos ⟨by omega,by omega⟩]
theorem agi{E:Env}{t s rQ aM:Nat}{ag:Bool}{z:List AV}{H:Hp}(hS:eR E t=some (ag,s,rQ,z)):aZ E H aM .append [t,t] [.aH,.aH]=some (.aH,[]):=by
 obtain⟨i,e,ei,h1,h2,h3,h4,h5,h6,h7⟩:=iB hS;obtain⟨cS,isAgg,size,bytes,zero,eQ⟩:=i;simp only at h2;subst h2 h5 h6;have GZ:aZ E H aM .append [t,t] [.aH,.aH]=fM E H aM false t .aH .aH:=by simp[aZ,h1]
 rw[GZ];unfold fM;simp only[h1,h3,vJ,pV,sJ,kf];rfl
theorem agW{ts:List AV}:ch ts (.const (.pointer none))=some .jH:=rfl
theorem agh{E:Env}{t s rQ b n aM:Nat}{ag:Bool}{z x cs:List AV}{H:Hp}(hS:eR E t=some (ag,s,rQ,z))(hs:0<s)(Ew:0<n)(hb:H[b]?=some (.cells .live cs))(tg:cs.length=n*s){c:Nat}{st:iH}(hc:H[c]?=some (.cells st x))(hd:st≠ .dead)(hx:x.length=s)(hxo:x.all b7=true)(hr:(n+1)*rQ<=gq)(hn:n+1<=4611686018427387904):
  aZ E H aM .append [t,t] [.aI b 0 n s n,.aI c 0 1 s 1]=some (.aI aM 0 (n+1) s (n+1),[(b,.cells .dead []),(aM,.cells .live (cs++x))]):=by
 obtain⟨i,e,ei,h1,h2,h3,h4,h5,h6,h7⟩:=iB hS;obtain⟨cS,isAgg,size,bytes,zero,eQ⟩:=i;simp only at h2;subst h2 h5 h6;have tY:vJ H ei false (.aI c 0 1 ei.size 1)=some (1,x):=by
  have ht:aTa (1*ei.size) x=x:=by rw[Nat.one_mul,<-hx,aR7]
  simp[vJ,pV,sJ,kf,hc,hd,hx];rw[<-hx,aR7]
 have GZ:aZ E H aM .append [t,t] [.aI b 0 n ei.size n,.aI c 0 1 ei.size 1]=fM E H aM false t (.aI b 0 n ei.size n) (.aI c 0 1 ei.size 1):=by simp[aZ,h1]
 rw[GZ];unfold fM;simp only[h1,h3,tY];rw[if_neg (by omega),if_neg (by rw[hxo,h7];simp;omega)];simp only[hb];rw[if_neg (by omega),if_pos ⟨trivial,by omega,by omega,by omega⟩,aQh,<-tg,aR7]
theorem tH{H:Hp}:(cJ.marks []).app H=H:=rfl
theorem zQ:∀{a b:List AV},bE (a++b)=(bE a&&bE b)
 |[],b=>rfl
 |x::a,b=>by rw[aP4,bE,bE,zQ,Bool.and_assoc]
theorem UO{E:Env}{t s rQ:Nat}{ag:Bool}{z a b:List AV}{aM:Nat}(hS:eR E t=some (ag,s,rQ,z))(hz:z.length=s)(hs:0<s)(I7:2*s<=16777216)(ha:a.length=s)(hb:b.length=s):aW E aM t 2 [(0,.agg a),(1,.agg b)]=some (.aI aM 0 2 s 2,[(aM,.cells .live (a++b))]):=by
 obtain⟨i,e,ei,h1,h2,h3,h4,h5,h6,h7⟩:=iB hS;obtain⟨cS,isAgg,size,bytes,zero,eQ⟩:=i;simp only at h2;subst h2 h5;have hr:iG z 2=z++z:=by simp[iG]
 simp only[aW,h1,h3,h7,hr];rw[if_pos ⟨hz,hs,by omega⟩];simp[hZ,AV.cells,ha,hb,hz]
theorem UA{E:Env}{t s rQ aM b n:Nat}{ag:Bool}{z x:List AV}{H:Hp}{st:iH}(hS:eR E t=some (ag,s,rQ,z))(hs:0<s)(hn:0<n)(hn2:n<=4611686018427387904)(hb:H[b]?=some (.cells st x))(hd:st≠ .dead)(hx:x.length=n*s)(hxo:x.all b7=true)(hr:n*rQ<=gq):
  aZ E H aM .append [t,t] [.aH,.aI b 0 n s n]=some (.aI aM 0 n s n,[(aM,.cells .live x)]):=by
 obtain⟨i,e,ei,h1,h2,h3,h4,h5,h6,h7⟩:=iB hS;obtain⟨cS,isAgg,size,bytes,zero,eQ⟩:=i;simp only at h2;subst h2 h5 h6;have tY:vJ H ei false (.aI b 0 n ei.size n)=some (n,x):=by simp[vJ,pV,sJ,kf,hb,hd,hx];rw[<-hx,aR7]
 have GZ:aZ E H aM .append [t,t] [.aH,.aI b 0 n ei.size n]=fM E H aM false t .aH (.aI b 0 n ei.size n):=by simp[aZ,h1]
 rw[GZ];unfold fM;simp only[h1,h3,tY];rw[if_neg (by omega),if_neg (by rw[hxo,h7];simp;omega),if_pos ⟨by omega,by omega⟩]
inductive ve:List AV->List Tw->Prop
 |nil:ve [] []
 |cons {c cs:List AV} {t:Tw} {ts:List Tw} (h:AL (.agg c) t) (hl:c.length=24) (h':ve cs ts):ve (c++cs) (t::ts)
theorem ve.len:∀{cs:List AV} {ts:List Tw},ve cs ts->cs.length=ts.length*24
 |_,_,.nil=>rfl
 |_,_,.cons _ hl h'=>by rw[aMk,hl,h'.len,List.length_cons];omega
theorem ve.one{c:List AV}{t:Tw}(h:AL (.agg c) t)(hl:c.length=24):ve c [t]:=by
 have:=ve.cons h hl .nil
 rw[List.append_nil]at this;exact this
theorem ve.app:∀{cs:List AV} {ts:List Tw},ve cs ts->∀{c:List AV} {t:Tw},AL (.agg c) t->c.length=24->ve (cs++c) (ts++[t])
 |_,_,.nil,c,t,h,hl=>ve.one h hl
 |_,_,.cons h hl h',c,t,h1,uN=>by
  rw[aS1,aP4];exact .cons h hl (h'.app h1 uN)
theorem PS{c:List AV}{t:Tw}(h:AL (.agg c) t):c.length=24:=by obtain⟨kH,kr,kI,ku,me,lO,mf,lP,mh,lQ,mi,lR,nk,nh,nu,nj,nS,nO,nT,nP,nU,nQ,nV,nR,e,-,-⟩:=h;simp only[AV.agg.injEq]at e;subst e;rfl
theorem Dm{c:List AV}{t:Tw}(h:AL (.agg c) t):∀v∈c,Flat v:=by
 obtain⟨kH,kr,kI,ku,me,lO,mf,lP,mh,lQ,mi,lR,nk,nh,nu,nj,nS,nO,nT,nP,nU,nQ,nV,nR,e,h1,h2⟩:=h;simp only[AV.agg.injEq]at e;subst e;intro v hv;have f1:=sw h1;have f2:=sw h2;have hv':v∈[.bool kH,kr,.bool kI,ku,.bool me,lO,.bool mf,lP,.bool mh,lQ,.bool mi,lR]++[.bool nk,nh,.bool nu,nj,.bool nS,nO,.bool nT,nP,.bool nU,nQ,.bool nV,nR]:=hv;rcases aNg.1 hv' with h|h
 ·exact f1 v h
 ·exact f2 v h
theorem YH{c:List AV}{t:Tw}(h:AL (.agg c) t):c.all b7=true:=by obtain⟨kH,kr,kI,ku,me,lO,mf,lP,mh,lQ,mi,lR,nk,nh,nu,nj,nS,nO,nT,nP,nU,nQ,nV,nR,e,h1,h2⟩:=h;simp only[AV.agg.injEq]at e;subst e;have A:=dQ h1;have B:=dQ h2;simp only[List.all_cons,List.all_nil,qp,A,B,aRg]
theorem At{c:List AV}{t:Tw}(h:AL (.agg c) t):bE c=true:=by obtain⟨kH,kr,kI,ku,me,lO,mf,lP,mh,lQ,mi,lR,nk,nh,nu,nj,nS,nO,nT,nP,nU,nQ,nV,nR,e,h1,h2⟩:=h;simp only[AV.agg.injEq]at e;subst e;have A:=dQ h1;have B:=dQ h2;simp only[bE,aN,A,B,aRg]
theorem ve.flat:∀{cs:List AV} {ts:List Tw},ve cs ts->∀v∈cs,Flat v
 |_,_,.nil,v,hv=>absurd hv (by simp)
 |_,_,.cons h hl h',v,hv=>by
  rcases aNg.1 hv with hv|hv
  ·exact Dm h v hv
  ·exact h'.flat v hv
theorem ve.pure:∀{cs:List AV} {ts:List Tw},ve cs ts->bE cs=true
 |_,_,.nil=>rfl
 |_,_,.cons h hl h'=>by
  rw[zQ,At h,h'.pure];rfl
theorem Au{v:AV}{t:Tw}(h:AL v t):aN v=true:=by obtain⟨kH,kr,kI,ku,me,lO,mf,lP,mh,lQ,mi,lR,nk,nh,nu,nj,nS,nO,nT,nP,nU,nQ,nV,nR,rfl,h1,h2⟩:=id h;exact At h
def CD(v:AV)(ts:List Tw):Prop:=(ts=[]/\v=.aH)∨(ts≠[]/\∃cs,v=.aJ cs ts.length/\ve cs ts)
theorem oD{v:AV}{t:Tw}(h:AL v t):∃c,v=.agg c/\c.length=24/\c.all b7=true/\bE c=true:=by obtain⟨kH,kr,kI,ku,me,lO,mf,lP,mh,lQ,mi,lR,nk,nh,nu,nj,nS,nO,nT,nP,nU,nQ,nV,nR,rfl,h1,h2⟩:=id h;exact⟨_,rfl,rfl,YH h,At h⟩
theorem JP{d:Int}{cl:Bool}{a0 a1 a2 b0 b1 b2 h:List UInt8}(la0:a0.length<=65536)(la1:a1.length<=65536)(la2:a2.length<=65536)(lb0:b0.length<=65536)(lb1:b1.length<=65536)(lb2:b2.length<=65536){k l:Nat}(bd:BV k (fN 65536 a0 a1 a2))(bp:BV l (fN 65536 b0 b1 b2))(Ol:k+l<=10000000000):
  ∃r,aO E 40 [cw 1 d cl a0 a1 a2 b0 b1 b2 h]=some r/\CD r [gd (fN 65536 a0 a1 a2) (fN 65536 b0 b1 b2)]:=by
 obtain⟨x,hx,ix⟩:=eu (E:=E) (s0:=a0) (s1:=a1) (s2:=a2) (by omega) (by omega) (by omega);obtain⟨y,hy,iy⟩:=eu (E:=E) (s0:=b0) (s1:=b1) (s2:=b2) (by omega) (by omega) (by omega);obtain⟨t,ht,it⟩:=lk (E:=E) ix iy bd bp Ol;obtain⟨c,rfl,iE,C7,B6⟩:=oD it;obtain⟨kH,kr,kI,ku,me,lO,mf,lP,mh,lQ,mi,lR,rfl,-,-,-,P,O⟩:=cD ix;obtain⟨nk,nh,nu,nj,nS,nO,nT,nP,nU,nQ,nV,nR,rfl,-,-,-,P1,O1⟩:=cD iy;have pS:∀aM,aW E aM 70 1 [(0,AV.agg c)]=some (.aI aM 0 1 24 1,[(aM,.cells .live c)]):=fun aM=>gE uo rfl (by decide) (by decide) (by exact iE)
 have V8:∀p q r aM,aZ E [p,q,r,.cells .live c] aM .append [70,70] [.aH,.aI 3 0 1 24 1]=some (.aI aM 0 1 24 1,[(aM,.cells .live c)]):=fun p q r aM=>pN uo (by decide) (by rfl) (by decide) iE C7 (by decide)
 refine mO aaB ?_;intro ts hl g0;unfold c40 cw at*;have gf:∀p q r s,oG false [p,q,r,s,.cells .live c] [.aI 4 0 1 24 1]=some ([.aJ c 1],[4]):=fun p q r s=>jQ (st:=.live) rfl (by decide) (by omega) (Dm it)
 simp only[↓aQ,aR,↓aT,aK,↓reduceIte,aa,ah,ae,Tryz.f40,ai,hl,g0,hx,hy,ht,P,O,P1,O1,pS,V8,gf];exact .inr ⟨by simp,c,rfl,ve.one it iE⟩
theorem JQ{d:Int}{cl:Bool}{a0 a1 a2 b0 b1 b2 h:List UInt8}(la0:a0.length<=65536)(la1:a1.length<=65536)(la2:a2.length<=65536)(lb0:b0.length<=65536)(lb1:b1.length<=65536)(lb2:b2.length<=65536){k l:Nat}(bd:BV k (fN 65536 a0 a1 a2))(bp:BV l (fN 65536 b0 b1 b2))(Ol:k+l<=10000000000):
  ∃r,aO E 40 [cw 2 d cl a0 a1 a2 b0 b1 b2 h]=some r/\CD r [gI (fN 65536 a0 a1 a2)]:=by
 obtain⟨x,hx,ix⟩:=eu (E:=E) (s0:=a0) (s1:=a1) (s2:=a2) (by omega) (by omega) (by omega);obtain⟨y,hy,iy⟩:=eu (E:=E) (s0:=b0) (s1:=b1) (s2:=b2) (by omega) (by omega) (by omega);obtain⟨t,ht,it⟩:=ji (E:=E) ix;obtain⟨c,rfl,iE,C7,B6⟩:=oD it;obtain⟨kH,kr,kI,ku,me,lO,mf,lP,mh,lQ,mi,lR,rfl,-,-,-,P,O⟩:=cD ix;obtain⟨nk,nh,nu,nj,nS,nO,nT,nP,nU,nQ,nV,nR,rfl,-,-,-,P1,O1⟩:=cD iy;have pS:∀aM,aW E aM 70 1 [(0,AV.agg c)]=some (.aI aM 0 1 24 1,[(aM,.cells .live c)]):=fun aM=>gE uo rfl (by decide) (by decide) (by exact iE)
 have V8:∀p q r aM,aZ E [p,q,r,.cells .live c] aM .append [70,70] [.aH,.aI 3 0 1 24 1]=some (.aI aM 0 1 24 1,[(aM,.cells .live c)]):=fun p q r aM=>pN uo (by decide) (by rfl) (by decide) iE C7 (by decide)
 refine mO aaB ?_;intro ts hl g0;unfold c40 cw at*;have gf:∀p q r s,oG false [p,q,r,s,.cells .live c] [.aI 4 0 1 24 1]=some ([.aJ c 1],[4]):=fun p q r s=>jQ (st:=.live) rfl (by decide) (by omega) (Dm it)
 simp only[↓aQ,aR,↓aT,aK,↓reduceIte,aa,ah,ae,Tryz.f40,ai,aD,hl,g0,hx,hy,ht,P,O,O1,pS,V8,gf];exact .inr ⟨by simp,c,rfl,ve.one it iE⟩
theorem JR{d:Int}{cl:Bool}{a0 a1 a2 b0 b1 b2 h:List UInt8}(la0:a0.length<=65536)(la1:a1.length<=65536)(la2:a2.length<=65536)(lb0:b0.length<=65536)(lb1:b1.length<=65536)(lb2:b2.length<=65536)(lh:h.length<=65536){k l q:Nat}(bq:Bq q (if dY 65536 h=0 then gY h else 0))(bd:BV k (fN 65536 a0 a1 a2))(bp:BV l (fN 65536 b0 b1 b2))(Ol:k+l<=1000000000)(hq:q<=1000000000):
  ∃r,aO E 40 [cw 3 d cl a0 a1 a2 b0 b1 b2 h]=some r/\CD r [yA (gd (fN 65536 a0 a1 a2) (fN 65536 b0 b1 b2)) (gI (eE (if dY 65536 h=0 then gY h else 0) (fN 65536 a0 a1 a2)))]:=by
 obtain⟨x,hx,ix⟩:=eu (E:=E) (s0:=a0) (s1:=a1) (s2:=a2) (by omega) (by omega) (by omega);obtain⟨y,hy,iy⟩:=eu (E:=E) (s0:=b0) (s1:=b1) (s2:=b2) (by omega) (by omega) (by omega);obtain⟨w,hw,iw⟩:=kn (E:=E) (s:=h) (by omega);obtain⟨t1,M6,it1⟩:=lk (E:=E) ix iy bd bp (by omega);obtain⟨s,hs,is⟩:=nJ (E:=E) ix iw bd bq (by omega);obtain⟨t2,J4,it2⟩:=ji (E:=E) is;have bc:=jb bp bd;have bz:BV (q+k) v0:=⟨yk.mono (by have:=bd.1.pos;omega),yk.mono (by have:=bd.1.pos;omega),yk.mono (by have:=bd.1.pos;omega)⟩;obtain⟨t,ht,it⟩:=FA (E:=E) it1 it2 (k:=2*(l+k)+1) (l:=q+k) (bd.mono (by omega)) bc bz (BV.scale bq bd) (by omega);have pt1:=Au it1;have pt2:=Au it2;have ps:=qe is;obtain⟨c,rfl,iE,C7,B6⟩:=oD it;obtain⟨kH,kr,kI,ku,me,lO,mf,lP,mh,lQ,mi,lR,rfl,-,-,-,P,O⟩:=cD ix;obtain⟨nk,nh,nu,nj,nS,nO,nT,nP,nU,nQ,nV,nR,rfl,-,-,-,P1,O1⟩:=cD iy;obtain⟨Y1,YZ,Y2,Y0,_,_,rfl,-,-,-,-⟩:=bR iw;have W:=aU _ iw;have pS:∀aM,aW E aM 70 1 [(0,AV.agg c)]=some (.aI aM 0 1 24 1,[(aM,.cells .live c)]):=fun aM=>gE uo rfl (by decide) (by decide) (by exact iE)
 have V8:∀p q r s aM,aZ E [p,q,r,s,.cells .live c,dV] aM .append [70,70] [.aH,.aI 4 0 1 24 1]=some (.aI aM 0 1 24 1,[(aM,.cells .live c)]):=fun p q r s aM=>pN uo (by decide) (by rfl) (by decide) iE C7 (by decide)
 refine mO aaB ?_;intro ts hl g0;unfold c40 cw at*;have gf:∀p q r s t,oG false [p,q,r,s,t,.cells .live c] [.aI 5 0 1 24 1]=some ([.aJ c 1],[5]):=fun p q r s t=>jQ (st:=.live) rfl (by decide) (by omega) (Dm it)
 simp only[↓aQ,aR,↓aT,aK,↓reduceIte,aa,ah,ae,Tryz.f40,ai,aD,hl,g0,hx,hy,ht,hw,M6,hs,J4,pt1,pt2,ps,W,P,O,P1,O1,pS,V8,gf];exact .inr ⟨by simp,c,rfl,ve.one it iE⟩
theorem JS{d:Int}{cl:Bool}{a0 a1 a2 b0 b1 b2 h:List UInt8}(la0:a0.length<=65536)(la1:a1.length<=65536)(la2:a2.length<=65536)(lb0:b0.length<=65536)(lb1:b1.length<=65536)(lb2:b2.length<=65536){k l:Nat}(bd:BV k (fN 65536 a0 a1 a2))(bp:BV l (fN 65536 b0 b1 b2))(Ol:k+l<=10000000000):
  ∃r,aO E 40 [cw 4 d cl a0 a1 a2 b0 b1 b2 h]=some r/\CD r [gd (fN 65536 a0 a1 a2) (fN 65536 b0 b1 b2),gI (fN 65536 a0 a1 a2)]:=by
 obtain⟨x,hx,ix⟩:=eu (E:=E) (s0:=a0) (s1:=a1) (s2:=a2) (by omega) (by omega) (by omega);obtain⟨y,hy,iy⟩:=eu (E:=E) (s0:=b0) (s1:=b1) (s2:=b2) (by omega) (by omega) (by omega);obtain⟨t,ht,it⟩:=lk (E:=E) ix iy bd bp Ol;obtain⟨c,rfl,iE,C7,B6⟩:=oD it;obtain⟨u,hu,iu⟩:=ji (E:=E) ix;obtain⟨c',rfl,Oi,aoc,awK⟩:=oD iu;obtain⟨kH,kr,kI,ku,me,lO,mf,lP,mh,lQ,mi,lR,rfl,-,-,-,P,O⟩:=cD ix;obtain⟨nk,nh,nu,nj,nS,nO,nT,nP,nU,nQ,nV,nR,rfl,-,-,-,P1,O1⟩:=cD iy;have pS:∀aM,aW E aM 70 2 [(0,AV.agg c),(1,AV.agg c')]=some (.aI aM 0 2 24 2,[(aM,.cells .live (c++c'))]):=fun aM=>UO uo rfl (by decide) (by decide) iE Oi
 have V8:∀p q r aM,aZ E [p,q,r,.cells .live (c++c'),dV] aM .append [70,70] [.aH,.aI 3 0 2 24 2]=some (.aI aM 0 2 24 2,[(aM,.cells .live (c++c'))]):=fun p q r aM=>UA uo (by decide) (by decide) (by decide) (by rfl) (by decide) (by rw[aMk];omega) (by rw[List.all_append,C7,aoc];rfl) (by decide)
 refine mO aaB ?_;intro ts hl g0;unfold c40 cw at*;have gf:∀p q r s,oG false [p,q,r,s,.cells .live (c++c')] [.aI 4 0 2 24 2]=some ([.aJ (c++c') 2],[4]):=fun p q r s=>jQ (st:=.live) rfl (by decide) (by rw[aMk];omega) (ve.cons it iE (ve.one iu Oi)).flat
 simp only[↓aQ,aR,↓aT,aK,↓reduceIte,aa,ah,ae,Tryz.f40,ai,aD,hl,g0,hx,hy,ht,hu,P,O,P1,O1,pS,V8,gf];exact .inr ⟨by simp,c++c',rfl,ve.cons it iE (ve.one iu Oi)⟩
def e0V:V3:=⟨(1:Int),(0:Int),(0:Int)⟩
def e1V:V3:=⟨(0:Int),(1:Int),(0:Int)⟩
def e2V:V3:=⟨(0:Int),(0:Int),(1:Int)⟩
theorem IM:BV 1 e0V/\BV 1 e1V/\BV 1 e2V:=by have h1:Bq 1 ((1:Int):Rat):=Bq.int (z:=1) (by decide) (by omega);have h0:Bq 1 ((0:Int):Rat):=Bq.int (z:=0) (by decide) (by omega);exact⟨⟨h1,h0,h0⟩,⟨h0,h1,h0⟩,⟨h0,h0,h1⟩⟩
def eV:Nat->V3
 |0=>e0V
 |1=>e1V
 |_=>e2V
theorem aad(i:Nat):BV 1 (eV i):=by
 unfold eV
 split
 ·exact IM.1
 ·exact IM.2.1
 ·exact IM.2.2
theorem aj0{cs:List AV}{t0 t1:Tw}(h:ve cs [t0,t1]):∃nk nh nu nj nS nO nT nP nU nQ nV nR,(cs.drop 36).take 12=[.bool nk,nh,.bool nu,nj,.bool nS,nO,.bool nT,nP,.bool nU,nQ,.bool nV,nR]/\fS (.agg [.bool nk,nh,.bool nu,nj,.bool nS,nO,.bool nT,nP,.bool nU,nQ,.bool nV,nR]) t1.l/\cs.length=48:=by
 cases h with
 |@cons c0 tL _ _ h0 M0 h'=>
  cases h' with
  |@cons c1 agy _ _ h1 uN h''=>
   cases h'';obtain⟨kH,kr,kI,ku,me,lO,mf,lP,mh,lQ,mi,lR,nk,nh,nu,nj,nS,nO,nT,nP,nU,nQ,nV,nR,e,h2,h3⟩:=h1;simp only[AV.agg.injEq]at e;subst e;refine⟨nk,nh,nu,nj,nS,nO,nT,nP,nU,nQ,nV,nR,?_,h3,by rw[aMk,aMk,M0];rfl⟩;rw[show(36:Nat)=c0.length+12 by omega,<-List.drop_drop,List.drop_left];rfl
end Go.Proofs.YtblnjkjjedanaaaGreatDoor
