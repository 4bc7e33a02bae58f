/- A part of the proof that PairRefuses returns true for every input; no condition of its own. -/
import Derived.Test.YtblnjkjjedanaaaGreatDoorTal
set_option linter.all false
set_option maxHeartbeats 100000000
set_option maxRecDepth 100000
open List renaming length_set->aPp,length_cons->aMn,length_nil->aP3,take_of_length_le->aP6,getElem?_cons_zero->aP1,take_succ_cons->aQo,drop_succ_cons->aQp,nil_append->aP5,append_nil->aRf,drop_zero->aQh,getElem?_cons_succ->aP2,take_zero->aRh,getElem?_eq_getElem->aMh,getD->aP8,all_cons->aOV,drop_nil->aRi,take_nil->aRj,all_nil->aRl,getElem_mem->aMo,replicate->aK6,cons_append->aP4,modify_succ_cons->aRm,modify_zero_cons->aRn,mem_replicate->aRo,getElem?_set_self->aOc,getElem?_set_ne->aN9,drop_set_of_lt->aRr
open Nat renaming zero_add->aMg,mul_add->aQa,le_refl->aLr,mod_eq_of_lt->aRk,mul_assoc->aQl,pow_succ->aQi,mul_zero->aRs,or_lt_two_pow->aRt,reduceLT->aa,reduceEqDiff->ae,reduceAdd->ah
open Bool renaming false_eq_true->aLs,or_true->aP7,or_self->aQd,and_true->aP9,and_self->aRg,true_and->aQm
open Option renaming map_some->aNj
open Int renaming toNat_natCast->aQe,natCast_mul->aRp,natCast_add->aRq
namespace Go.Proofs.YtblnjkjjedanaaaGreatDoor
open Go Dv
noncomputable def O4:Code:=(match Tryz.f182.body with|some c=>c|none=>.skip)
theorem VE:E0.fn 182=some {code:=O4,ntmps:=44,results:=[.tmp 4],pure:=true,eX:=false}:=by kernel_rfl
theorem x8{z:Int}:aV .u32 z=z%4294967296:=by
 show IntKind.u32.wrap _=_
 rw[IntKind.wrap_u32]
theorem EW{E:Env}(C:Ctx E){v w:AV}{a b:List Nat}(ha:fG v a)(hb:fG w b)(la:a.length<10000000001)(hle:b.length<=a.length)(hvl:val b<=val a):
  ∃r,aO E 182 [v,w]=some r/\∃l,fG r l/\val l=val a-val b/\l.length=a.length:=by
 refine fn2 (C.ov 182 _ (by decide)) (by rw[C.fn];exact VE) rfl (by decide) ?_;intro ts hl g0 g1;have T:=jf C.toOver;show W E O4 ts [] _
 unfold O4;simp only[Tryz.f182,↓reduceIte,qx,gM,fE,dm,vR,fu,kK,jE,uU,wT,ga,dF,pR,eT,cz,aP,cW,b8,cT,ec,tO,eS,jq,cQ,gS,bE,aP9,qK,bQ,bO,dG,aPp,aa,ne_eq,ae,not_false_eq_true,aP5,aMn,aP3,aMg,cR,hl,g0,eH T ha,W5 C (show a.length<100000000000 by omega),dP];refine He (fun k ts H=>∃i out c,k=a.length-i/\i<=a.length/\ts.length=44/\gt ts 1=w/\gt ts 13=v/\gt ts 14=.int .i64 (a.length:Nat)/\gt ts 15=.int .i64 (i:Nat)/\gt ts 5=.aI 0 0 a.length 1 a.length/\gt ts 6=.int .i64 (c:Nat)/\
  H=[.cells .live (cP out)]/\out.length=a.length/\(∀d∈out,d<4294967296)/\c<=1/\val (out.take i)+val (b.take i)=val (a.take i)+4294967296^i*c) (a.length) ?_ ?_
 rotate_left
 ·refine⟨0,aK6 a.length 0,0,by omega,by omega,by simp[hl],?_⟩;simp only[bO,dG,aPp,hl,aa,ne_eq,ae,not_false_eq_true,g1];refine⟨trivial,trivial,trivial,rfl,trivial,rfl,?_,by simp,?_,by omega,by simp[val]⟩
  ·simp
  ·intro d hd;have:=(aRo.1 hd).2;omega
 clear hl g0 g1 ts;rintro k ts H ⟨i,out,c,rfl,hi,hl,g1,g13,g14,g15,g5,g6,rfl,ho,hd,hc,hv⟩;have hz:=tJ C;have fK:∀(j z:Nat),j<out.length->mY 1 [.int .u32 (z:Int)] [.cells .live (cP out)] 0 j=some (.cells .live (cP (out.set j z))):=by intro j z hj;rw[l8,xj hj,qd,if_pos];simp[b7];omega
 by_cases uM:i<a.length
 ·have ye:=fun z=>fK i z (by omega)
  have sD:decide ((i:Int)<(a.length:Int))=true:=cF (by omega);have F7:=kN T ha (k:=.i64) (z:=(i:Int)) (by omega) (by omega);have Bd:=Le C (b:=0) (n:=a.length) (k:=.i64) (z:=(i:Int)) (by omega) (by omega);rw[aQe]at F7 Bd;have Bi:=fun H=>sd T (l:=a) (H:=H) uM
  generalize hx:a.getD i 0=x at Bi;have tk:x<4294967296:=by rw[<-hx];rw[aP8,aMh uM];exact ha.1 _ (aMo uM)
  have w1:aV .i64 (x:Int)=x:=wrap_i64 (by omega) (by omega);have w2:aV .i64 ((x:Int)-(c:Int))=(x:Int)-(c:Int):=wrap_i64 (by omega) (by omega);have w5:aV .i64 ((i:Int)+1)=((i+1:Nat):Int):=by rw[wrap_i64 (by omega) (by omega)];simp
  by_cases QI:i<b.length
  ·have B7:decide ((i:Int)<(b.length:Int))=true:=cF (by omega);have Lf:=kN T hb (k:=.i64) (z:=(i:Int)) (by omega) (by omega);rw[aQe]at Lf;have M8:=fun H=>sd T (l:=b) (H:=H) QI
   generalize hy:b.getD i 0=y at M8;have abo:y<4294967296:=by rw[<-hy,aP8,aMh QI];exact hb.1 _ (aMo QI)
   have w3:aV .i64 (y:Int)=y:=wrap_i64 (by omega) (by omega);have w4:aV .i64 ((x:Int)-(c:Int)-(y:Int))=(x:Int)-(c:Int)-(y:Int):=wrap_i64 (by omega) (by omega);by_cases th:(x:Int)-(c:Int)-(y:Int)<0
   ·have hn:decide ((x:Int)-(c:Int)-(y:Int)<0)=true:=cF (by omega);have w6:aV .u32 ((x:Int)-(c:Int)-(y:Int))=((x+4294967296-c-y:Nat):Int):=by rw[x8];omega
    simp(maxSteps:=1000000)only[↓reduceIte,gD,kX,gM,fE,gz,dm,fu,kW,gH,gR,eG,ga,dF,iv,gh,ie,wD,eT,cz,aP,cW,dU,b8,cT,ec,eS,jq,cQ,aN,qK,bQ,bO,dG,aPp,mT,oR,iI,aa,ne_eq,ae,not_false_eq_true,aMn,aP3,aMg,bK,aQd,aP7,cR,fU,aNj,jz,jy,ye,hl,g1,g13,g14,g15,g5,g6,eH T hb,sD,F7,Bi,fD hz.1 hz.2.2.1,fD hz.2.2.1 hz.1,iN,w1,w2,B7,Lf,M8,w3,w4,w5,w6,hn,Bd,kS (vw C),AV.cells]
    refine⟨a.length-(i+1),by omega,i+1,out.set i (x+4294967296-c-y),1,rfl,by omega,trivial,trivial,trivial,trivial,rfl,trivial,rfl,rfl,by simpa using ho,?_,by omega,?_⟩
    ·exact dK hd (by omega)
    ·rw[fP (by omega),cN uM,hx,cN QI,hy];have e:4294967296^(i+1)*1=4294967296^i*(4294967296*1):=by rw[aQi,aQl]
     have e2:4294967296^i*(x+4294967296-c-y)+4294967296^i*y+4294967296^i*c=4294967296^i*x+4294967296^i*(4294967296*1):=by rw[<-aQa,<-aQa,<-aQa];congr 1;omega
     omega
   ·have hn:decide ((x:Int)-(c:Int)-(y:Int)<0)=false:=cH (by omega);have w6:aV .u32 ((x:Int)-(c:Int)-(y:Int))=((x-c-y:Nat):Int):=by rw[x8];omega
    simp(maxSteps:=1000000)only[↓reduceIte,gD,kX,gM,fE,gz,dm,fu,kW,gH,gR,eG,ga,dF,iv,gh,ie,wD,eT,cz,aP,cW,dU,b8,cT,ec,eS,jq,cQ,aN,qK,bQ,bO,dG,aPp,mT,oR,iI,aa,ne_eq,ae,not_false_eq_true,aMn,aP3,aMg,bK,aQd,aP7,cR,fU,aNj,jz,jy,ye,hl,g1,g13,g14,g15,g5,g6,eH T hb,sD,F7,Bi,fD hz.1 hz.2.2.1,fD hz.2.2.1 hz.1,iN,w1,w2,B7,Lf,M8,w3,w4,w5,w6,hn,Bd,kS (vw C),AV.cells,aLs]
    refine⟨a.length-(i+1),by omega,i+1,out.set i (x-c-y),0,rfl,by omega,trivial,trivial,trivial,trivial,rfl,trivial,rfl,rfl,by simpa using ho,?_,by omega,?_⟩
    ·exact dK hd (by omega)
    ·rw[fP (by omega),cN uM,hx,cN QI,hy];have e:4294967296^(i+1)*0=4294967296^i*(4294967296*0):=by rw[aQi,aQl]
     have e2:4294967296^i*(x-c-y)+4294967296^i*y+4294967296^i*c=4294967296^i*x+4294967296^i*(4294967296*0):=by rw[<-aQa,<-aQa,<-aQa];congr 1;omega
     omega
  ·have B7:decide ((i:Int)<(b.length:Int))=false:=cH (by omega);by_cases th:(x:Int)-(c:Int)<0
   ·have hn:decide ((x:Int)-(c:Int)<0)=true:=cF (by omega);have w6:aV .u32 ((x:Int)-(c:Int))=((x+4294967296-c:Nat):Int):=by rw[x8];omega
    simp(maxSteps:=1000000)only[↓reduceIte,gD,kX,gM,fE,gz,dm,fu,kW,gH,gR,eG,ga,dF,iv,gh,ie,wD,eT,cz,aP,cW,dU,b8,cT,ec,eS,jq,cQ,aN,qK,bQ,bO,dG,aPp,mT,oR,iI,aa,ne_eq,ae,not_false_eq_true,aMn,aP3,aMg,bK,aQd,aP7,cR,fU,aNj,jz,jy,ye,hl,g1,g13,g14,g15,g5,g6,eH T hb,sD,F7,Bi,fD hz.1 hz.2.2.1,fD hz.2.2.1 hz.1,iN,w1,w2,B7,w5,w6,hn,Bd,kS (vw C),AV.cells,aLs]
    refine⟨a.length-(i+1),by omega,i+1,out.set i (x+4294967296-c),1,rfl,by omega,trivial,trivial,trivial,trivial,rfl,trivial,rfl,rfl,by simpa using ho,?_,by omega,?_⟩
    ·exact dK hd (by omega)
    ·rw[fP (by omega),cN uM,hx];rw[aP6 (show b.length<=i+1 by omega)];rw[aP6 (show b.length<=i by omega)]at hv;have e:4294967296^(i+1)*1=4294967296^i*(4294967296*1):=by rw[aQi,aQl]
     have e2:4294967296^i*(x+4294967296-c)+4294967296^i*0+4294967296^i*c=4294967296^i*x+4294967296^i*(4294967296*1):=by rw[<-aQa,<-aQa,<-aQa];congr 1;omega
     rw[aRs]at e2;omega
   ·have hn:decide ((x:Int)-(c:Int)<0)=false:=cH (by omega);have w6:aV .u32 ((x:Int)-(c:Int))=((x-c:Nat):Int):=by rw[x8];omega
    simp(maxSteps:=1000000)only[↓reduceIte,gD,kX,gM,fE,gz,dm,fu,kW,gH,gR,eG,ga,dF,iv,gh,ie,wD,eT,cz,aP,cW,dU,b8,cT,ec,eS,jq,cQ,aN,qK,bQ,bO,dG,aPp,mT,oR,iI,aa,ne_eq,ae,not_false_eq_true,aMn,aP3,aMg,bK,aQd,aP7,cR,fU,aNj,jz,jy,ye,hl,g1,g13,g14,g15,g5,g6,eH T hb,sD,F7,Bi,fD hz.1 hz.2.2.1,fD hz.2.2.1 hz.1,iN,w1,w2,B7,w5,w6,hn,Bd,kS (vw C),AV.cells,aLs]
    refine⟨a.length-(i+1),by omega,i+1,out.set i (x-c),0,rfl,by omega,trivial,trivial,trivial,trivial,rfl,trivial,rfl,rfl,by simpa using ho,?_,by omega,?_⟩
    ·exact dK hd (by omega)
    ·rw[fP (by omega),cN uM,hx];rw[aP6 (show b.length<=i+1 by omega)];rw[aP6 (show b.length<=i by omega)]at hv;have e:4294967296^(i+1)*0=4294967296^i*(4294967296*0):=by rw[aQi,aQl]
     have e2:4294967296^i*(x-c)+4294967296^i*0+4294967296^i*c=4294967296^i*x+4294967296^i*(4294967296*0):=by rw[<-aQa,<-aQa,<-aQa];congr 1;omega
     rw[aRs]at e2;omega
 ·have sD:decide ((i:Int)<(a.length:Int))=false:=cH (by omega);obtain rfl:i=a.length:=by omega
  have gf:oG false [.cells .live (cP out)] [.aI 0 0 a.length 1 a.length]=some ([.aJ (cP out) a.length],[0]):=by
   have:=wu (H:=[.cells .live (cP out)]) (b:=0) (l:=out) (st:=.live) rfl (by decide)
   rw[ho]at this;exact this
  simp only[↓reduceIte,gD,kX,gM,fE,gz,dm,fu,kW,gR,eG,kO,ga,dF,iv,ie,wD,eT,cz,aP,b8,dT,cT,ec,eS,jq,cQ,aN,bQ,bO,dG,aPp,iI,aa,ne_eq,ae,not_false_eq_true,bK,aQd,aP7,jz,jy,hl,g13,g14,g15,g5,sD,aLs,gf];refine⟨out,⟨hd,.inl (by rw[ho])⟩,?_,ho⟩;rw[aP6 (Nat.le_of_eq ho),aP6 hle,aP6 (aLr _)]at hv;have h1:=o8 hd;rw[ho]at h1
  have:c=0:=by
   rcases Nat.eq_zero_or_pos c with h|h
   ·exact h
   ·have:c=1:=by omega
    subst this;omega
  subst this;omega
noncomputable def agf:Code:=(match Tryz.f145.body with|some c=>c|none=>.skip)
theorem ahh:E0.fn 145=some {code:=agf,ntmps:=42,results:=[.cell 4 60],pure:=true,eX:=false}:=by kernel_rfl
theorem qZ{v:AV}{z:Int}(h:fk v z):∃x y,v=.agg [x,y]/\b7 x=true/\b7 y=true/\aN x=true/\aN y=true:=by obtain⟨neg,m,l,rfl,hm,_⟩:=h;exact⟨_,_,rfl,rfl,(aY hm).2,rfl,aL hm⟩
theorem Ke{E:Env}(C:Ctx E){v w:AV}{x y:Int}(h:fk v x)(k:fk w y)(fx:Fit x)(fy:Fit y):∃r,aO E 145 [v,w]=some r/\fk r (x+y):=by
 obtain⟨na,m,a,rfl,hm,hn,th,rfl⟩:=h;obtain⟨nb,m',b,rfl,kM,yo,K2,rfl⟩:=k;have la:=xJ hn oQ fx;have lb:=xJ yo oQ fy;refine fn2 (C.ov 145 _ (by decide)) (by rw[C.fn];exact ahh) rfl (by decide) ?_;intro ts hl g0 g1;have T:=jf C.toOver;show W E agf ts [] _
 unfold agf;by_cases hs:na=nb
 ·subst hs;have hd:(na==na)=true:=by simp
  obtain⟨rp,hp,lp,Et,vp,lnp⟩:=S6 C hm kM la lb;obtain⟨r,hr,wM⟩:=ka C Et (by omega) na;have lW:=ed hr;have oa:fk r ((if na=true then-(val a:Int)else val a)+(if na=true then-(val b:Int)else val b)):=by
   rw[vp]at wM;cases na
   ·simpa using wM
   ·simp only[if_true]at wM⊢;rw[show-(val a:Int)+ -(val b:Int)= -((val a+val b:Nat):Int)by omega];exact wM
  obtain⟨u,t,rfl,o1,o2,p1,p2⟩:=qZ wM;simp only[Tryz.f145,↓reduceIte,gD,qx,gM,fE,gz,dm,AN,fu,Du,gH,vN,eG,kK,kO,jE,k9,wT,dF,pn,B4,iv,gh,ie,Ek,rW,cz,aP,dU,b8,dT,nY,cT,ec,oT,eS,jq,cQ,gS,qu,bE,aN,aP9,aQm,aRg,vT,bQ,bO,dG,aPp,aP1,aP2,beq_self_eq_true,aa,ah,ne_eq,ae,not_false_eq_true,gJ,aP5,aP4,aMn,aP3,aMg,bK,aQd,aP7,fw,ky,mM,qJ,l8,qt,cR,k8,fU,fV,aNj,aOV,aRl,aQo,aRh,aQp,aQh,aRi,aRf,aLr,decide_true,aRj,hl,g0,g1,sY C,sZ C,js (Gc C),js (yu C),qo (DA C),kS (Fx C),sA C,aL hm,aL kM,aL Et,Iz (GB C),hp,lW,o1,o2,p1,p2];exact⟨⟨rfl,by rw[C.pairs];rfl⟩,oa⟩
 ·have hd:(na==nb)=false:=by simpa using hs
  have ord:=ed (uR C hm kM hn yo (by omega) (by omega));by_cases hv:val b<=val a
  ·have F5:decide (pP (val a) (val b)≥0)=true:=cF (by unfold pP;split<;>(try split)<;>omega);have hlen:b.length<=a.length:=by
    by_cases q:a.length<b.length
    ·have:=x6 hm.1 yo q
     omega
    ·omega
   obtain⟨rp,hp,lp,Et,vp,lnp⟩:=EW C hm kM la hlen (by omega);obtain⟨r,hr,wM⟩:=ka C Et (by omega) na;have lW:=ed hr;have oa:fk r ((if na=true then-(val a:Int)else val a)+(if nb=true then-(val b:Int)else val b)):=by
    rw[vp]at wM;have e:(if na=true then-((val a-val b:Nat):Int)else((val a-val b:Nat):Int))=((if na=true then-(val a:Int)else val a)+(if nb=true then-(val b:Int)else val b)):=by
     cases na<;>cases nb<;>first|(exact absurd rfl hs)|(simp;omega)
    rw[<-e];exact wM
   obtain⟨u,t,rfl,o1,o2,p1,p2⟩:=qZ wM;simp only[Tryz.f145,↓reduceIte,gD,qx,gM,fE,gz,dm,AN,fu,Du,gH,vN,eG,kK,kO,jE,k9,wT,dF,pn,B4,iv,gh,ie,Ek,rW,cz,aP,dU,b8,dT,nY,cT,ec,oT,eS,jq,cQ,gS,qu,bE,aN,aP9,aQm,aRg,vT,bQ,bO,dG,aPp,aP1,aP2,beq_self_eq_true,AO,aa,ah,ne_eq,ae,not_false_eq_true,gJ,aP5,aP4,aMn,aP3,aMg,bK,aQd,aP7,fw,ky,mM,qJ,l8,qt,cR,k8,fU,fV,aNj,aOV,aRl,aQo,aRh,aQp,aQh,aRi,aRf,aLr,decide_true,aRj,hl,g0,g1,sY C,sZ C,js (Gc C),js (yu C),qo (DA C),kS (Fx C),sA C,aL hm,aL kM,aL Et,Iz (GB C),hd,hp,lW,o1,o2,p1,p2,ord,F5,aLs];exact⟨⟨rfl,by rw[C.pairs];rfl⟩,oa⟩
  ·have F5:decide (pP (val a) (val b)≥0)=false:=cH (by unfold pP;split<;>(try split)<;>omega);have hlen:a.length<=b.length:=by
    by_cases q:b.length<a.length
    ·have:=x6 kM.1 hn q
     omega
    ·omega
   obtain⟨rp,hp,lp,Et,vp,lnp⟩:=EW C kM hm lb hlen (by omega);obtain⟨r,hr,wM⟩:=ka C Et (by omega) nb;have lW:=ed hr;have oa:fk r ((if na=true then-(val a:Int)else val a)+(if nb=true then-(val b:Int)else val b)):=by
    rw[vp]at wM;have e:(if nb=true then-((val b-val a:Nat):Int)else((val b-val a:Nat):Int))=((if na=true then-(val a:Int)else val a)+(if nb=true then-(val b:Int)else val b)):=by
     cases na<;>cases nb<;>first|(exact absurd rfl hs)|(simp;omega)
    rw[<-e];exact wM
   obtain⟨u,t,rfl,o1,o2,p1,p2⟩:=qZ wM;simp only[Tryz.f145,↓reduceIte,gD,qx,gM,fE,gz,dm,AN,fu,Du,gH,vN,eG,kK,kO,jE,k9,wT,dF,pn,B4,iv,gh,ie,Ek,rW,cz,aP,dU,b8,dT,nY,cT,ec,oT,eS,jq,cQ,gS,qu,bE,aN,aP9,aQm,aRg,vT,bQ,bO,dG,aPp,aP1,aP2,beq_self_eq_true,AO,aa,ah,ne_eq,ae,not_false_eq_true,gJ,aP5,aP4,aMn,aP3,aMg,bK,aQd,aP7,fw,ky,mM,qJ,l8,qt,cR,k8,fU,fV,aNj,aOV,aRl,aQo,aRh,aQp,aQh,aRi,aRf,aLr,decide_true,aRj,hl,g0,g1,sY C,sZ C,js (Gc C),js (yu C),qo (DA C),kS (Fx C),sA C,aL hm,aL kM,aL Et,Iz (GB C),hd,hp,lW,o1,o2,p1,p2,ord,F5,aLs];exact⟨⟨rfl,by rw[C.pairs];rfl⟩,oa⟩
theorem Qx{z:Int}(h:Fit z):Fit (-z):=by obtain⟨n,h1,h2⟩:=h;exact⟨n,h1,by rwa[Int.natAbs_neg]⟩
theorem qO{E:Env}{ops rest:List Oper}{ts:List AV}{H:Hp}{q:List AV->Hp->Prop}{d:Option Nat}{t:Nat}{p:String}{af:Array Edge}{t1 len:Nat}{ps:Array (Nat×Operand)}:
  ft E ops (⟨d,.buildSlice t1 len ps,t,p,af,none⟩::rest) ts H q=AK (xH ts ps.toList) fun vs=>sE (aW E H.length t1 len vs) fun r=>ft E ops rest (bQ d r.1 ts) ((cJ.bM r.2).app H) q:=by
 rw[qB rfl (by intro c h;cases h)];simp only[eN,aW];cases xH ts ps.toList with
 |none=>
  cases E.ty t1 with
  |none=>rfl
  |some i=>
   obtain⟨cS,isAgg,size,bytes,zero,eQ⟩:=i;cases cS<;>try rfl
   rename_i e;simp only;cases E.ty e with
   |none=>rfl
   |some ei=>simp only;cases ei.zero<;>rfl
 |some vs=>
  simp only[hJ];cases E.ty t1 with
  |none=>rfl
  |some i=>
   obtain⟨cS,isAgg,size,bytes,zero,eQ⟩:=i;cases cS<;>try rfl
   rename_i e;simp only;cases E.ty e with
   |none=>rfl
   |some ei=>
    simp only;cases ei.zero with
    |none=>rfl
    |some z=>
     simp only
     split
     ·cases hZ (fun i=>some (i*ei.size,ei.size)) (iG z len) vs<;>rfl
     ·rfl
theorem ZS{E:Env}(C:Ctx E){aM:Nat}{x y:Int}:aW E aM 58 2 [(0,.int .u32 x),(1,.int .u32 y)]=some (.aI aM 0 2 1 2,[(aM,.cells .live [.int .u32 x,.int .u32 y])]):=by have T:=jf C.toOver;obtain⟨i,e1,e2,e3⟩:=T.t66;obtain⟨j,f1,f2,f3,f4,f5,f6⟩:=T.t126;obtain⟨cS,isAgg,size,bytes,zero,eQ⟩:=i;simp only at e2;subst e2;simp[aW,e1,f1,f5,f4,iG,hZ,AV.cells]
noncomputable def VK:Code:=(match Tryz.f49.body with|some c=>c|none=>.skip)
theorem aaD:E0.fn 49=some {code:=VK,ntmps:=19,results:=[.cell 2 60],pure:=true,eX:=false}:=by kernel_rfl
theorem rP{b:Nat}{H:Hp}:(cJ.marks [b]).app H=H.modify b cG.nN:=rfl
theorem mK{b:Nat}{x:cG}:dP [] b x=[x]:=rfl
theorem BH{z:Int}:aV .u64 z=z%18446744073709551616:=by
 show IntKind.u64.wrap z=_
 unfold IntKind.wrap;simp[IntKind.signed,IntKind.bits]
theorem YQ{k:IntKind}{n:Int}:YP .neg (.int k n)=some (.int k (aV k (0-n))):=rfl
theorem xK{E:Env}(C:Ctx E){n:Int}(h0: -9223372036854775808<=n)(h1:n<9223372036854775808):∃r,aO E 49 [.int .i64 n]=some r/\fk r n:=by
 obtain⟨k,hk⟩:∃k:Nat,k=n.natAbs:=⟨_,rfl⟩;have hm:fG (.aJ (cP [k%4294967296,k/4294967296%4294967296]) 2) [k%4294967296,k/4294967296%4294967296]:=⟨by intro d hd;simp at hd;omega,.inl rfl⟩;have hv:val [k%4294967296,k/4294967296%4294967296]=k:=by simp only[val];omega
 obtain⟨r,hr,wM⟩:=ka C hm (by simp) (decide (n<0));have lW:=ed hr;rw[hv]at wM;have oa:fk r n:=by
  have e:(if decide (n<0)=true then-(k:Int)else(k:Int))=n:=by
   by_cases q:n<0
   ·rw[cF q];simp only[if_true];omega
   ·rw[cH q];simp only[aLs,if_false];omega
  rwa[e]at wM
 obtain⟨u,t,rfl,o1,o2,p1,p2⟩:=qZ wM;refine fn1 (C.ov 49 _ (by decide)) (by rw[C.fn];exact aaD) rfl (by decide) ?_;intro ts hl g0;have T:=jf C.toOver;have hz:=tJ C;show W E VK ts [] _
 unfold VK;have w2:aV .u32 (k:Int)=((k%4294967296:Nat):Int):=wrap_u32;have w3:aV .u32 ((k/4294967296:Nat):Int)=((k/4294967296%4294967296:Nat):Int):=wrap_u32;have gf:∀b:Bool,oG false [.cells .live [.bool false,.aH],.cells .live [.int .u32 ((k%4294967296:Nat):Int),.int .u32 ((k/4294967296%4294967296:Nat):Int)]] [.bool b,.aI 1 0 2 1 2]=some ([.bool b,.aJ (cP [k%4294967296,k/4294967296%4294967296]) 2],[1]):=by intro b;rfl
 by_cases q:n<0
 ·have hd:decide (n<0)=true:=cF q;have w0:aV .u64 n=n+18446744073709551616:=by rw[BH];omega
  have w1:aV .u64 (0-(n+18446744073709551616))=(k:Int):=by rw[BH];omega
  rw[hd]at lW;cases zO:bJ (.agg [u,t])
  ·simp only[Tryz.f49,↓reduceIte,gD,qx,gM,gz,dm,fu,eG,kK,kO,jE,k9,wT,ga,dF,pn,gh,ie,RZ,rW,cz,aP,cW,dU,b8,hJ,dT,nY,cT,ec,oT,eS,jq,D9,D8,cQ,mU,gS,qu,bE,aN,aP9,aQm,aRg,bQ,bO,dG,aPp,beq_self_eq_true,iI,aa,ah,ne_eq,ae,not_false_eq_true,gJ,aP5,aMn,aP3,aMg,bK,aP7,mM,l8,cR,k8,fU,fV,aNj,aOV,aRl,aQo,aRh,aQp,aQh,aRi,aRf,aLr,decide_true,aRj,hl,g0,qo (DA C),kS (Fx C),sA C,fD hz.2.2.2 hz.2.1,fD hz.2.1 hz.1,iN,w0,hd,YQ,w1,w2,w3,qO,ZS C,kY,gf,lW,zO,o1,o2,p1,p2,aLs,rP,aRm,aRn,mK];exact oa
  ·simp only[Tryz.f49,↓reduceIte,gD,qx,gM,gz,dm,fu,eG,kK,kO,jE,k9,wT,ga,dF,pn,gh,ie,RZ,rW,cz,aP,cW,dU,b8,hJ,dT,nY,cT,ec,oT,eS,jq,D9,D8,cQ,mU,gS,qu,bE,aN,aP9,aQm,aRg,xx,bQ,bO,dG,aPp,beq_self_eq_true,iI,aa,ah,ne_eq,ae,not_false_eq_true,gJ,aP5,aMn,aP3,aMg,bK,aP7,mM,l8,cR,k8,fU,fV,aNj,aOV,aRl,aQo,aRh,aQp,aQh,aRi,aRf,aLr,decide_true,aRj,hl,g0,qo (DA C),kS (Fx C),sA C,fD hz.2.2.2 hz.2.1,fD hz.2.1 hz.1,iN,w0,hd,YQ,w1,w2,w3,qO,ZS C,kY,gf,lW,zO,o1,o2,p1,p2,mK];exact oa
 ·have hd:decide (n<0)=false:=cH q;have w0:aV .u64 n=(k:Int):=by rw[BH];omega
  rw[hd]at lW;cases zO:bJ (.agg [u,t])
  ·simp only[Tryz.f49,↓reduceIte,gD,qx,gM,gz,dm,fu,eG,kK,kO,jE,k9,wT,ga,dF,pn,gh,ie,RZ,rW,cz,aP,cW,dU,b8,hJ,dT,nY,cT,ec,oT,eS,jq,D9,D8,cQ,mU,gS,qu,bE,aN,aP9,aQm,aRg,bQ,bO,dG,aPp,beq_self_eq_true,iI,aa,ah,ne_eq,ae,not_false_eq_true,gJ,aP5,aMn,aP3,aMg,bK,aP7,mM,l8,cR,k8,fU,fV,aNj,aOV,aRl,aQo,aRh,aQp,aQh,aRi,aRf,aLr,decide_true,aRj,hl,g0,qo (DA C),kS (Fx C),sA C,fD hz.2.2.2 hz.2.1,fD hz.2.1 hz.1,iN,w0,hd,w2,w3,qO,ZS C,kY,gf,lW,zO,o1,o2,p1,p2,aLs,rP,aRm,aRn,mK];exact oa
  ·simp only[Tryz.f49,↓reduceIte,gD,qx,gM,gz,dm,fu,eG,kK,kO,jE,k9,wT,ga,dF,pn,gh,ie,RZ,rW,cz,aP,cW,dU,b8,hJ,dT,nY,cT,ec,oT,eS,jq,D9,D8,cQ,mU,gS,qu,bE,aN,aP9,aQm,aRg,xx,bQ,bO,dG,aPp,beq_self_eq_true,iI,aa,ah,ne_eq,ae,not_false_eq_true,gJ,aP5,aMn,aP3,aMg,bK,aP7,mM,l8,cR,k8,fU,fV,aNj,aOV,aRl,aQo,aRh,aQp,aQh,aRi,aRf,aLr,decide_true,aRj,hl,g0,qo (DA C),kS (Fx C),sA C,fD hz.2.2.2 hz.2.1,fD hz.2.1 hz.1,iN,w0,hd,w2,w3,qO,ZS C,kY,gf,lW,zO,o1,o2,p1,p2,aLs,mK];exact oa
theorem Rp{l:List Nat}{j d:Nat}(h:j<l.length):val (l.set j d)+4294967296^j*l.getD j 0=val l+4294967296^j*d:=by
 rw[uv (l:=l.set j d) (i:=j) (by simpa using h),uv (l:=l) (i:=j) h];have e1:(l.set j d).take j=l.take j:=List.take_set_of_le (aLr _);have e2:(l.set j d).drop (j+1)=l.drop (j+1):=aRr (by omega);have e3:(l.set j d).getD j 0=d:=by rw[aP8,aOc h];rfl
 rw[e1,e2,e3,aQa,aQa];omega
noncomputable def mulC:Code:=(match Tryz.f106.body with|some c=>c|none=>.skip)
theorem ahi:E0.fn 106=some {code:=mulC,ntmps:=77,results:=[.cell 4 60],pure:=true,eX:=false}:=by kernel_rfl
def Ci(na:Bool)(m:AV)(nb:Bool)(m':AV)(out:List Nat):Hp:=[.cells .live [.bool na,m],.cells .live [.bool nb,m'],.cells .live [.bool false,.aH],.cells .live (cP out)]
theorem aaI{H:Hp}{u v:AV}{w:AV}{bs:List Nat}(hu:aN u=true)(h1:fz H 40 u=some (u,[]))(hv:aN v=false)(h:bW H [v]=some ([w],bs)):oG false H [u,v]=some ([u,w],bs):=by
 rw[kV];unfold bW at h⊢;rw[show bE [v]=false by simp[bE,hv]]at h;rw[show bE [u,v]=false by simp[bE,hu,hv]];simp only[aLs,if_false,dh]at h⊢;rw[h1];cases hf:fz H 40 v with
 |none=>rw[hf]at h;cases h
 |some y=>
  rw[hf]at h;simp only[List.map_cons,List.map_nil,List.flatMap_cons,List.flatMap_nil,aRf,Option.some.injEq,Prod.mk.injEq,List.cons.injEq,and_true]at h;simp[h.1,h.2]
theorem k7{E:Env}(C:Ctx E){v w:AV}{x y:Int}(h:fk v x)(k:fk w y)(fx:Fit x)(fy:Fit y):∃r,aO E 106 [v,w]=some r/\fk r (x*y):=by
 obtain⟨na,m,a,rfl,hm,hn,th,rfl⟩:=h;obtain⟨nb,m',b,rfl,kM,yo,K2,rfl⟩:=k;have la:=xJ hn oQ fx;have lb:=xJ yo oQ fy;refine fn2 (C.ov 106 _ (by decide)) (by rw[C.fn];exact ahi) rfl (by decide) ?_;intro ts hl g0 g1;have T:=jf C.toOver;show W E mulC ts [] _
 unfold mulC;have w1:aV .i64 ((a.length:Int)+(b.length:Int))=((a.length+b.length:Nat):Int):=by rw[wrap_i64 (by omega) (by omega)];simp
 simp only[Tryz.f106,qx,gM,fE,dm,vR,fu,kK,jE,k9,ga,dF,pn,B4,iv,gh,ie,Ek,pR,eT,rW,cz,aP,cW,b8,nY,cT,ec,oT,eS,jq,cQ,gS,bE,aP9,qK,bQ,bO,dG,aPp,aP1,aP2,mT,aa,ah,ne_eq,ae,not_false_eq_true,gJ,aP5,aP4,aMn,aP3,aMg,bK,aQd,fw,ky,cR,k8,hl,g0,g1,sZ C,js (yu C),sA C,eH T hm,eH T kM,w1,W5 C (show a.length+b.length<100000000000 by omega),mK];refine He (fun k ts H=>∃i out,k=a.length-i/\i<=a.length/\ts.length=77/\gt ts 2=.b6 0 0/\gt ts 3=.b6 1 0/\gt ts 4=.b6 2 0/\gt ts 20=m/\gt ts 21=.int .i64 (a.length:Nat)/\gt ts 22=.int .i64 (i:Nat)/\gt ts 5=.aI 3 0 (a.length+b.length) 1 (a.length+b.length)/\
  H=Ci na m nb m' out/\out.length=a.length+b.length/\(∀d∈out,d<4294967296)/\val out=val (a.take i)*val b/\(∀j,i+b.length<=j->out.getD j 0=0)) (a.length) ?_ ?_
 rotate_left
 ·refine⟨0,aK6 (a.length+b.length) 0,by omega,by omega,by simp[hl],?_⟩;simp only[bO,dG,aPp,hl,aa,ne_eq,ae,not_false_eq_true];refine⟨trivial,trivial,trivial,trivial,trivial,rfl,trivial,rfl,by simp,?_,by simp[val,Ia],?_⟩
  ·intro d hd;have:=(aRo.1 hd).2;omega
  ·intro j hj;rw[aP8,List.getElem?_replicate]
   split<;>rfl
 clear hl g0 g1 ts;rintro k ts H ⟨i,out,rfl,hi,hl,g2,g3,g4,g20,g21,g22,g5,rfl,ho,hd,hv,hzero⟩;have hz:=tJ C;by_cases uM:i<a.length
 ·have sD:decide ((i:Int)<(a.length:Int))=true:=cF (by omega);have F7:=kN T hm (k:=.i64) (z:=(i:Int)) (by omega) (by omega);rw[aQe]at F7;have Bi:=fun H=>sd T (l:=a) (H:=H) uM
  generalize hx:a.getD i 0=x at Bi;have tk:x<4294967296:=by rw[<-hx,aP8,aMh uM];exact hm.1 _ (aMo uM)
  unfold Ci;simp only[↓reduceIte,gD,kX,gM,fE,gz,dm,vR,fu,kW,gR,eG,ga,dF,iv,ie,Ek,wD,eT,cz,aP,cW,b8,cT,ec,eS,jq,cQ,aN,qK,bQ,bO,dG,aPp,aP1,aP2,iI,aa,ah,ne_eq,ae,not_false_eq_true,aMn,aP3,aMg,bK,aQd,aP7,fw,ky,jz,jy,hl,g2,g3,g4,g20,g21,g22,g5,sY C,sZ C,js (Gc C),js (yu C),eH T kM,sD,F7,Bi];refine He (fun q ts H=>∃k yM c,q=b.length-k/\k<=b.length/\ts.length=77/\gt ts 2=.b6 0 0/\gt ts 3=.b6 1 0/\gt ts 4=.b6 2 0/\gt ts 20=m/\gt ts 21=.int .i64 (a.length:Nat)/\gt ts 22=.int .i64 (i:Nat)/\gt ts 5=.aI 3 0 (a.length+b.length) 1 (a.length+b.length)/\
   gt ts 6=.int .i64 (i:Nat)/\gt ts 7=.int .u32 (x:Nat)/\gt ts 8=.int .u64 (c:Nat)/\gt ts 28=m'/\gt ts 29=.int .i64 (b.length:Nat)/\gt ts 30=.int .i64 (k:Nat)/\
   H=Ci na m nb m' yM/\yM.length=a.length+b.length/\(∀d∈yM,d<4294967296)/\c<4294967296/\val yM+4294967296^(i+k)*c=val out+4294967296^i*(x*val (b.take k))/\(∀j,i+b.length<=j->yM.getD j 0=0)) (b.length) ?_ ?_
  rotate_left
  ·refine⟨0,out,0,by omega,by omega,by simp[hl],?_⟩;simp only[bO,dG,aPp,hl,aa,ne_eq,ae,not_false_eq_true,g2,g3,g4,g20,g21,g22,g5];refine⟨trivial,trivial,trivial,trivial,trivial,trivial,trivial,trivial,trivial,rfl,trivial,trivial,rfl,rfl,ho,hd,by first|trivial|omega,by simp[val],hzero⟩
  clear hl g2 g3 g4 g20 g21 g22 g5 ts;rintro q ts H ⟨k,yM,c,rfl,hk,hl,g2,g3,g4,g20,g21,g22,g5,g6,g7,g8,TX,g29,g30,rfl,ho',We,hc,hv',OB⟩;have fK:∀(j z:Nat),j<yM.length->mY 1 [.int .u32 (z:Int)] [.cells .live (cP yM)] 0 j=some (.cells .live (cP (yM.set j z))):=by intro j z hj;rw[l8,xj hj,qd,if_pos];simp[b7];omega
  have hxx:aV .u64 (x:Int)=x:=wrap_u64 (by omega);by_cases Zq:k<b.length
  ·have B7:decide ((k:Int)<(b.length:Int))=true:=cF (by omega);have Lf:=kN T kM (k:=.i64) (z:=(k:Int)) (by omega) (by omega);rw[aQe]at Lf;have M8:=fun H=>sd T (l:=b) (H:=H) Zq
   generalize hy:b.getD k 0=y at M8;have abo:y<4294967296:=by rw[<-hy,aP8,aMh Zq];exact kM.1 _ (aMo Zq)
   have ye:=fun z=>fK (i+k) z (by omega)
   have Bd:=Le C (b:=3) (n:=a.length+b.length) (k:=.i64) (z:=((i+k:Nat):Int)) (by omega) (by omega);rw[aQe]at Bd;have jN:i+k<yM.length:=by omega
   generalize ht:yM.getD (i+k) 0=t;have aGX:t<4294967296:=by rw[<-ht,aP8,aMh jN];exact We _ (aMo jN)
   have uL:(cP yM)[i+k]?=some (.int .u32 (t:Int)):=by rw[<-ht];simp[cP,aP8,jN]
   have hxy:x*y<=4294967295*4294967295:=Nat.mul_le_mul (by omega) (by omega);have w0:aV .i64 ((i:Int)+(k:Int))=((i+k:Nat):Int):=by rw[wrap_i64 (by omega) (by omega)];simp
   have w1':aV .u64 (y:Int)=y:=wrap_u64 (by omega);have w2:aV .u64 ((x:Int)*(y:Int))=((x*y:Nat):Int):=by rw[<-aRp];exact wrap_u64 (by omega)
   have w3:aV .u64 (t:Int)=t:=wrap_u64 (by omega);have w4:aV .u64 (((x*y:Nat):Int)+(t:Int))=((x*y+t:Nat):Int):=by rw[<-aRq];exact wrap_u64 (by omega)
   have w5:aV .u64 ((c:Int)+((x*y+t:Nat):Int))=((c+(x*y+t):Nat):Int):=by rw[<-aRq];exact wrap_u64 (by omega)
   have w6:aV .i64 ((k:Int)+1)=((k+1:Nat):Int):=by rw[wrap_i64 (by omega) (by omega)];simp
   unfold Ci
   simp(maxSteps:=1000000)only[↓reduceIte,gD,kX,gM,fE,gz,dm,fu,kW,gH,gR,eG,ga,dF,iv,gh,ie,wD,cz,aP,dU,cT,ec,bQ,bO,dG,aPp,mT,NA,iI,aa,ah,ne_eq,ae,not_false_eq_true,aMn,aP3,aMg,bK,aQd,aP7,fw,ky,qt,cR,k8,fU,aNj,jz,jy,ye,uL,hl,g2,g3,g4,g20,g21,g22,g5,g6,g7,g8,TX,g29,g30,js (aiQ C),B7,Lf,M8,Bd,fD hz.1 hz.2.1,fD hz.2.1 hz.1,iN,hxx,w0,w1',w2,w3,w4,w5,w6,wrap_u32,kY,kS (vw C),AV.cells]
   refine⟨b.length-(k+1),by omega,k+1,yM.set (i+k) ((c+(x*y+t))%4294967296),(c+(x*y+t))/4294967296,rfl,by omega,trivial,trivial,trivial,trivial,trivial,trivial,trivial,trivial,trivial,trivial,rfl,trivial,trivial,rfl,rfl,by simpa using ho',dK We (by omega),by omega,?_,?_⟩
   ·have s1:=Rp (d:=(c+(x*y+t))%4294967296) jN;rw[ht]at s1;rw[cN Zq,hy];have e1:4294967296^(i+(k+1))*((c+(x*y+t))/4294967296)=4294967296^(i+k)*(4294967296*((c+(x*y+t))/4294967296)):=by rw[<-Nat.add_assoc,aQi,aQl]
    have e2:4294967296^(i+k)*((c+(x*y+t))%4294967296)+4294967296^(i+k)*(4294967296*((c+(x*y+t))/4294967296))=4294967296^(i+k)*c+(4294967296^(i+k)*(x*y)+4294967296^(i+k)*t):=by rw[<-aQa,Nat.mod_add_div,aQa,aQa]
    have e3:4294967296^i*(x*(val (b.take k)+4294967296^k*y))=4294967296^i*(x*val (b.take k))+4294967296^(i+k)*(x*y):=by
     rw[aQa,aQa,Nat.pow_add];congr 1
     ac_rfl
    omega
   ·intro j hj;rw[aP8,aN9 (by omega)];exact OB j hj
  ·have B7:decide ((k:Int)<(b.length:Int))=false:=cH (by omega);obtain rfl:k=b.length:=by omega
   have ye:=fun z=>fK (i+b.length) z (by omega)
   have Bd:=Le C (b:=3) (n:=a.length+b.length) (k:=.i64) (z:=((i+b.length:Nat):Int)) (by omega) (by omega);rw[aQe]at Bd;have w0:aV .i64 ((i:Int)+(b.length:Int))=((i+b.length:Nat):Int):=by rw[wrap_i64 (by omega) (by omega)];simp
   have w6:aV .i64 ((i:Int)+1)=((i+1:Nat):Int):=by rw[wrap_i64 (by omega) (by omega)];simp
   have jN:i+b.length<yM.length:=by omega
   unfold Ci
   simp(maxSteps:=1000000)only[↓reduceIte,gD,kX,gM,fE,gz,dm,fu,kW,gH,gR,eG,ga,dF,iv,gh,ie,wD,cz,aP,cW,dU,cT,ec,qK,bQ,bO,dG,aPp,aP1,aP2,mT,iI,aa,ah,ne_eq,ae,not_false_eq_true,aMn,aP3,aMg,bK,aQd,aP7,fw,ky,qt,cR,k8,fU,aNj,jz,jy,ye,hl,g2,g3,g4,g20,g21,g22,g5,g6,g7,g8,TX,g29,g30,B7,Bd,sZ C,js (yu C),eH T kM,fD hz.1 hz.2.1,fD hz.2.1 hz.1,iN,w0,w6,wrap_u32,kS (vw C),AV.cells,aLs]
   refine⟨a.length-(i+1),by omega,i+1,yM.set (i+b.length) (c%4294967296),rfl,by omega,trivial,trivial,trivial,trivial,trivial,trivial,rfl,trivial,rfl,by simpa using ho',dK We (by omega),?_,?_⟩
   ·have s1:=Rp (d:=c%4294967296) jN;rw[OB _ (aLr _),aRs,Nat.add_zero,aRk hc]at s1;rw[aRk hc,s1,hv',aP6 (aLr _),cN uM,hx,hv,Nat.add_mul,aQl]
   ·intro j hj;rw[aP8,aN9 (by omega)];exact OB j (by omega)
 ·have sD:decide ((i:Int)<(a.length:Int))=false:=cH (by omega);obtain rfl:i=a.length:=by omega
  rw[aP6 (aLr _)]at hv;have AB:fG (.aJ (cP out) (a.length+b.length)) out:=⟨hd,.inl (by rw[ho])⟩;obtain⟨r,hr,wM⟩:=ka C AB (by omega) (na !=nb);have lW:=ed hr;have oa:fk r ((if na=true then-(val a:Int)else val a)*(if nb=true then-(val b:Int)else val b)):=by
   rw[hv]at wM;cases na<;>cases nb<;>simpa[Int.neg_mul,Int.mul_neg,aRp]using wM
  obtain⟨u,t,rfl,o1,o2,p1,p2⟩:=qZ wM;have gf:oG false (Ci na m nb m' out) [.bool (na !=nb),.aI 3 0 (a.length+b.length) 1 (a.length+b.length)]=some ([.bool (na !=nb),.aJ (cP out) (a.length+b.length)],[3]):=by
   refine aaI rfl rfl (by simp[aN]) ?_
   have:=wu (H:=Ci na m nb m' out) (b:=3) (l:=out) (st:=.live) rfl (by decide)
   rw[ho]at this;exact this
  unfold Ci at gf⊢;cases zO:bJ (.agg [u,t])
  ·simp only[↓reduceIte,gD,kX,gM,fE,gz,dm,vR,fu,kW,gR,eG,kO,wT,ga,dF,iv,ie,Ek,wD,eT,cz,aP,dU,b8,dT,cT,ec,eS,jq,cQ,qu,bE,aN,aQm,aRg,bQ,bO,dG,aPp,aP1,beq_self_eq_true,iI,aa,ah,ne_eq,ae,not_false_eq_true,gJ,aP5,aMn,aP3,aMg,bK,aQd,aP7,fw,ky,mM,qJ,qt,cR,k8,fU,aNj,aOV,aRl,aQo,aRh,aQp,aQh,aRi,aRf,aLr,decide_true,aRj,jz,jy,l8,fV,hl,g2,g3,g4,g20,g21,g22,g5,sD,sY C,js (Gc C),C1 (GB C),gf,lW,zO,o1,o2,p1,p2,qo (DA C),kS (Fx C),rP,aRm,aRn,aLs];exact oa
  ·simp only[↓reduceIte,gD,kX,gM,fE,gz,dm,vR,fu,kW,gR,eG,kO,wT,ga,dF,iv,ie,Ek,wD,eT,cz,aP,dU,b8,dT,cT,ec,eS,jq,cQ,qu,bE,aN,aQm,aRg,xx,bQ,bO,dG,aPp,aP1,beq_self_eq_true,iI,aa,ah,ne_eq,ae,not_false_eq_true,gJ,aP5,aMn,aP3,aMg,bK,aQd,aP7,fw,ky,mM,qJ,qt,cR,k8,fU,aNj,aOV,aRl,aQo,aRh,aQp,aQh,aRi,aRf,aLr,decide_true,aRj,jz,jy,l8,fV,hl,g2,g3,g4,g20,g21,g22,g5,sD,sY C,js (Gc C),C1 (GB C),gf,lW,zO,o1,o2,p1,p2,qo (DA C),kS (Fx C),aLs];exact oa
theorem tt{out:List Nat}{H:Hp}{j z:Nat}(hj:j<out.length):mY 1 [.int .u32 (z:Int)] (.cells .live (cP out)::H) 0 j=some (.cells .live (cP (out.set j z))):=by rw[l8,xj hj,qd,if_pos];simp[b7];omega
theorem De{n:Nat}:∀d∈aK6 n 0,d<4294967296:=by intro d hd;have:=(aRo.1 hd).2;omega
theorem gN{l:List Nat}(h:∀d∈l,d<4294967296){i:Nat}:l.getD i 0<4294967296:=by
 rw[aP8];cases hq:l[i]? with
 |none=>simp
 |some x=>exact h x (List.mem_of_getElem? hq)
noncomputable def Ps:Code:=(match Tryz.f160.body with|some c=>c|none=>.skip)
theorem VG:E0.fn 160=some {code:=Ps,ntmps:=47,results:=[.tmp 6],pure:=true,eX:=false}:=by kernel_rfl
theorem Pt{E:Env}(C:Ctx E){v:AV}{a:List Nat}(ha:fG v a)(la:a.length<10000000001){m p:Nat}(hm:m<4294967296)(hp:p<4294967296):
  ∃r,aO E 160 [v,.int .u32 (m:Int),.int .u32 (p:Int)]=some r/\∃l,fG r l/\Norm l/\val l=val a*m+p/\l.length<=a.length+1:=by
 refine fn3 (C.ov 160 _ (by decide)) (by rw[C.fn];exact VG) rfl (by decide) ?_;intro ts hl g0 g1 g2;have T:=jf C.toOver;have hz:=tJ C;show W E Ps ts [] _
 unfold Ps;have w1:aV .i64 ((a.length:Int)+1)=((a.length+1:Nat):Int):=by rw[wrap_i64 (by omega) (by omega)];simp
 have w2:aV .u64 (p:Int)=p:=wrap_u64 (by omega);have wm:aV .u64 (m:Int)=m:=wrap_u64 (by omega);simp only[Tryz.f160,qx,gM,fE,dm,vR,fu,kK,jE,uU,wT,ga,dF,ie,pR,eT,rW,cz,aP,cW,b8,nY,cT,ec,oT,tO,eS,jq,cQ,gS,bE,aP9,qK,bQ,bO,dG,aPp,mT,aa,ne_eq,ae,not_false_eq_true,aMn,aP3,aMg,bK,aP7,cR,hl,g0,g2,eH T ha,w1,w2,fD hz.1 hz.2.1,iN,W5 C (show a.length+1<100000000000 by omega),mK];refine He (fun k_ ts H=>∃i out c,k_=a.length-i/\ts.length=47/\gt ts 0=v/\gt ts 1=.int .u32 (m:Int)/\gt ts 7=.aI 0 0 (a.length+1) 1 (a.length+1)/\gt ts 8=.int .u64 (c:Nat)/\gt ts 17=v/\gt ts 18=.int .i64 (a.length:Nat)/\gt ts 19=.int .i64 (i:Nat)/\H=[.cells .live (cP out)]/\(i<=a.length)/\(out.length=a.length+1)/\(∀d∈out,d<4294967296)/\(c<4294967296)/\(val (out.take i)+4294967296^i*c=val (a.take i)*m+p)) (a.length) ?_ ?_
 rotate_left
 ·refine⟨0,aK6 (a.length+1) 0,p,(by first|omega|rfl|(simp;done)),(by simp only[aPp,hl]),?_⟩;simp only[cM,hl,aa,ae,g0,g1]
  iterate 8 refine⟨by first|trivial|rfl|(congr 1;omega)|(simp;done)|(simp;omega),?_⟩
  refine⟨?_,?_,?_,?_,?_⟩
  ·omega
  ·simp
  ·exact De
  ·omega
  ·simp[val]
 clear hl g0 g1 g2 ts;rintro k_ ts H ⟨i,out,c,rfl,hl,g0,g1,g7,g8,g17,g18,g19,rfl,hi,ho,hd,hc,hv⟩;by_cases uM:i<a.length
 ·have sD:decide ((i:Int)<(a.length:Int))=true:=cF (by omega);have F7:=kN T ha (k:=.i64) (z:=(i:Int)) (by omega) (by omega);rw[aQe]at F7;have Bi:=fun H=>sd T (l:=a) (H:=H) uM
  have tk:=gN ha.1 (i:=i);generalize hx:a.getD i 0=x at Bi tk;have hxy:x*m<=4294967295*4294967295:=Nat.mul_le_mul (by omega) (by omega);have wx:aV .u64 (x:Int)=x:=wrap_u64 (by omega);have w3:aV .u64 ((x:Int)*(m:Int))=((x*m:Nat):Int):=by rw[<-aRp];exact wrap_u64 (by omega)
  have w4:aV .u64 ((c:Int)+((x*m:Nat):Int))=((c+x*m:Nat):Int):=by rw[<-aRq];exact wrap_u64 (by omega)
  have w5:aV .i64 ((i:Int)+1)=((i+1:Nat):Int):=by rw[wrap_i64 (by omega) (by omega)];simp
  have Bd:=Le C (b:=0) (n:=a.length+1) (k:=.i64) (z:=(i:Int)) (by omega) (by omega);rw[aQe]at Bd;have jN:i<out.length:=by omega
  have fK:=fun z H=>tt (H:=H) (z:=z) jN
  simp only[↓reduceIte,gD,kX,gM,fE,gz,dm,fu,kW,gH,gR,eG,ga,dF,iv,gh,ie,wD,cz,aP,dU,cT,ec,aN,bQ,bO,dG,aPp,mT,NA,iI,aa,ne_eq,ae,not_false_eq_true,aMn,aP3,aMg,bK,aQd,aP7,cR,fU,aNj,jz,jy,hl,g0,g1,g7,g8,g17,g18,g19,sD,F7,Bi,Bd,fK,fD hz.1 hz.2.1,fD hz.2.1 hz.1,iN,wx,wm,w3,w4,w5,wrap_u32,kY,kS (vw C),AV.cells];refine⟨_,(by first|omega|(simp;omega)),i+1,out.set i ((c+x*m)%4294967296),(c+x*m)/4294967296,rfl,(by first|trivial|rfl|assumption|(congr 1;omega)|(simp;done)|(simp;omega)),(by first|trivial|rfl|assumption|(congr 1;omega)|(simp;done)|(simp;omega)),(by first|trivial|rfl|assumption|(congr 1;omega)|(simp;done)|(simp;omega)),(by first|trivial|rfl|assumption|(congr 1;omega)|(simp;done)|(simp;omega)),(by first|trivial|rfl|assumption|(congr 1;omega)|(simp;done)|(simp;omega)),(by first|trivial|rfl|assumption|(congr 1;omega)|(simp;done)|(simp;omega)),(by first|trivial|rfl|assumption|(congr 1;omega)|(simp;done)|(simp;omega)),(by first|trivial|rfl|assumption|(congr 1;omega)|(simp;done)|(simp;omega)),(by first|trivial|rfl|assumption|(congr 1;omega)|(simp;done)|(simp;omega)),?_,?_,?_,?_,?_⟩
  ·omega
  ·simpa using ho
  ·exact dK hd (by omega)
  ·omega
  ·rw[fP jN,cN uM,hx];have e1:4294967296^(i+1)*((c+x*m)/4294967296)=4294967296^i*(4294967296*((c+x*m)/4294967296)):=by rw[aQi,aQl]
   have e2:4294967296^i*((c+x*m)%4294967296)+4294967296^i*(4294967296*((c+x*m)/4294967296))=4294967296^i*c+4294967296^i*(x*m):=by rw[<-aQa,Nat.mod_add_div,aQa]
   have e3:(val (a.take i)+4294967296^i*x)*m=val (a.take i)*m+4294967296^i*(x*m):=by rw[Nat.add_mul,aQl]
   omega
 ·have sD:decide ((i:Int)<(a.length:Int))=false:=cH (by omega);obtain rfl:i=a.length:=by omega
  have Bd:=Le C (b:=0) (n:=a.length+1) (k:=.i64) (z:=(a.length:Int)) (by omega) (by omega);rw[aQe]at Bd;have jN:a.length<out.length:=by omega
  have fK:=fun z H=>tt (H:=H) (z:=z) jN
  have We:∀d∈out.set a.length (c%4294967296),d<4294967296:=dK hd (by omega);have AB:fG (.aJ (cP (out.set a.length (c%4294967296))) (a.length+1)) (out.set a.length (c%4294967296)):=⟨We,.inl (by rw[aPp,ho])⟩;obtain⟨r,hr,I6⟩:=kJ C AB (by rw[aPp];omega);have lW:=ed hr;have gf:oG false [.cells .live (cP (out.set a.length (c%4294967296)))] [.aI 0 0 (a.length+1) 1 (a.length+1)]=some ([.aJ (cP (out.set a.length (c%4294967296))) (a.length+1)],[0]):=by
   rw[kV]
   have:=wu (H:=[.cells .live (cP (out.set a.length (c%4294967296)))]) (b:=0) (l:=out.set a.length (c%4294967296)) (st:=.live) rfl (by decide)
   rwa[aPp,ho]at this
  simp only[↓reduceIte,gD,kX,gM,fE,gz,dm,fu,kW,gH,gR,eG,kO,ga,dF,iv,gh,ie,wD,cz,aP,cW,dU,dT,cT,ec,qu,aN,qK,bQ,bO,dG,aPp,mT,iI,aa,ne_eq,ae,not_false_eq_true,aMn,aP3,aMg,bK,aQd,aP7,cR,fU,aNj,jz,jy,hl,g0,g1,g7,g8,g17,g18,g19,sD,Bd,fK,fD hz.1 hz.2.1,fD hz.2.1 hz.1,iN,wrap_u32,eH T ha,kS (vw C),AV.cells,gf,lW,aL I6,aLs];refine⟨_,I6,kq _,?_,?_⟩
  ·rw[jY];have h1:=fP (l:=out) (d:=c%4294967296) jN;rw[aP6 (by rw[aPp];omega)]at h1;rw[h1,aRk hc,hv,aP6 (aLr _)]
  ·obtain⟨n,hn⟩:=sW (out.set a.length (c%4294967296))
   have:=congrArg List.length hn
   rw[aPp,List.length_append]at this;omega
section
variable{E:Env}{c:Bool}{t:Nat}
theorem Qg{k:IntKind}{a b:Nat}(h:b≠0):dy E c .quo t (.int k (a:Int)) (.int k (b:Int))=some (.int k (aV k ((a/b:Nat):Int))):=by rw[ago (by omega)];rfl
theorem qL{k:IntKind}{a b:Nat}(h:b≠0):dy E c .rem t (.int k (a:Int)) (.int k (b:Int))=some (.int k ((a%b:Nat):Int)):=by rw[DH (by omega)];rfl
theorem xQ{n a:Nat}(h:a<2^n):(BitVec.ofInt n (a:Int)).toNat=a:=by rw[BitVec.ofInt_natCast,BitVec.toNat_ofNat,aRk h]
theorem IA{a b:Nat}(ha:a<18446744073709551616)(hb:b<18446744073709551616):dy E c .or t (.int .u64 (a:Int)) (.int .u64 (b:Int))=some (.int .u64 ((a|||b:Nat):Int)):=by
 have h:a|||b<2^64:=aRt (by omega) (by omega)
 simp only[dy,wP,ne_eq,not_true_eq_false,if_false];rw[show IntKind.u64.bits=64 from rfl,BitVec.toNat_or,xQ (by omega),xQ (by omega),wrap_u64 (by omega)]
theorem Qf{a b:Nat}(ha:a<4294967296)(hb:b<4294967296):dy E c .or t (.int .u32 (a:Int)) (.int .u32 (b:Int))=some (.int .u32 ((a|||b:Nat):Int)):=by
 have h:a|||b<2^32:=aRt (by omega) (by omega)
 simp only[dy,wP,ne_eq,not_true_eq_false,if_false];rw[show IntKind.u32.bits=32 from rfl,BitVec.toNat_or,xQ (by omega),xQ (by omega),wrap_u32,aRk (by omega)]
theorem IB{k k':IntKind}{a n:Nat}(h:n<=k.bits):dy E c .shl t (.int k (a:Int)) (.int k' (n:Int))=some (.int k (aV k ((a*2^n:Nat):Int))):=by
 simp only[dy];rw[if_neg (by omega),aQe,Nat.min_eq_left h]
 simp
theorem Qh{k k':IntKind}{a n:Nat}(h:n<=k.bits):dy E c .shr t (.int k (a:Int)) (.int k' (n:Int))=some (.int k ((a/2^n:Nat):Int)):=by
 simp only[dy];rw[if_neg (by omega),aQe,Nat.min_eq_left h,Int.fdiv_eq_ediv_of_nonneg _ (by exact Int.le_of_lt (Int.pow_pos (by decide)))]
 simp
theorem vU{a:Nat}{k':IntKind}(h:a<4294967296):dy E c .shl t (.int .u64 (a:Int)) (.int k' 32)=some (.int .u64 ((a*4294967296:Nat):Int)):=by
 have:=IB (E:=E) (c:=c) (t:=t) (k:=.u64) (k':=k') (a:=a) (n:=32) (by decide)
 rw[show(2:Nat)^32=4294967296 from rfl,wrap_u64 (by omega)]at this;exact this
theorem O9{r d:Nat}(h:d<4294967296):(r*4294967296)|||d=r*4294967296+d:=by
 have:=Nat.shiftLeft_add_eq_or_of_lt (i:=32) (b:=d) (by omega) r
 rw[Nat.shiftLeft_eq]at this;exact this.symm
end
noncomputable def Px:Code:=(match Tryz.f90.body with|some c=>c|none=>.skip)
theorem VH:E0.fn 90=some {code:=Px,ntmps:=43,results:=[.tmp 4,.tmp 5],pure:=true,eX:=false}:=by kernel_rfl
theorem yC{l:List Nat}{k:Nat}(h0:0<k)(h:k<=l.length):val (l.drop (k-1))=l.getD (k-1) 0+4294967296*val (l.drop k):=by
 have hk:k-1<l.length:=by omega
 rw[List.drop_eq_getElem_cons hk,show k-1+1=k by omega];simp[val,aP8,hk]
theorem ym{l:List Nat}{k d:Nat}(h0:0<k)(h:k<=l.length):val ((l.set (k-1) d).drop (k-1))=d+4294967296*val (l.drop k):=by rw[yC h0 (by simpa using h),aRr (by omega),aP8,aOc (by omega)];rfl
theorem Fv{E:Env}(C:Ctx E){v:AV}{a:List Nat}(ha:fG v a)(la:a.length<10000000001){m:Nat}(h0:m≠0)(hm:m<4294967296):
  ∃r,aO E 90 [v,.int .u32 (m:Int)]=some (.tuple [r,.int .u32 ((val a%m:Nat):Int)])/\∃l,fG r l/\Norm l/\val l=val a/m:=by
 suffices hh:∃u,aO E 90 [v,.int .u32 (m:Int)]=some u/\∃r,u=.tuple [r,.int .u32 ((val a%m:Nat):Int)]/\∃l,fG r l/\Norm l/\val l=val a/m by
  obtain⟨u,h1,r,rfl,h2⟩:=hh;exact⟨r,h1,h2⟩
 refine fn2 (C.ov 90 _ (by decide)) (by rw[C.fn];exact VH) rfl (by decide) ?_;intro ts hl g0 g1;have T:=jf C.toOver;have hz:=tJ C;show W E Px ts [] _
 unfold Px;have w1:aV .i64 ((a.length:Int)-1)=(a.length:Int)-1:=by rw[wrap_i64 (by omega) (by omega)]
 have wm:aV .u64 (m:Int)=m:=wrap_u64 (by omega);simp only[Tryz.f90,qx,gM,fE,dm,vR,fu,kK,jE,uU,aqx,ga,dF,ie,pR,eT,rW,cz,aP,cW,b8,nY,cT,ec,oT,tO,eS,jq,cQ,gS,bE,aN,aP9,qK,bQ,bO,dG,aPp,oR,aa,ne_eq,ae,not_false_eq_true,aMn,aP3,aMg,bK,aP7,cR,hl,g0,eH T ha,w1,W5 C (show a.length<100000000000 by omega),mK];refine He (fun k_ ts H=>∃i out c,k_=0+i/\ts.length=43/\gt ts 0=v/\gt ts 1=.int .u32 (m:Int)/\gt ts 6=.aI 0 0 a.length 1 a.length/\gt ts 7=.int .u64 (c:Nat)/\gt ts 8=.int .i64 ((i:Int)-1)/\H=[.cells .live (cP out)]/\(i<=a.length)/\(out.length=a.length)/\(∀d∈out,d<4294967296)/\(c=val (a.drop i)%m)/\(val (out.drop i)=val (a.drop i)/m)) (a.length) ?_ ?_
 rotate_left
 ·refine⟨a.length,aK6 a.length 0,0,(by first|omega|rfl|(simp;done)),(by simp only[aPp,hl]),?_⟩;simp only[cM,hl,aa,ae,g0,g1]
  iterate 6 refine⟨by first|trivial|rfl|(congr 1;omega)|(simp;done)|(simp;omega),?_⟩
  refine⟨?_,?_,?_,?_,?_⟩
  ·omega
  ·simp
  ·exact De
  ·simp[val]
  ·simp[val]
 clear hl g0 g1 ts;rintro k_ ts H ⟨i,out,c,rfl,hl,g0,g1,g6,g7,g8,rfl,hi,ho,hd,hc,hv⟩;have hcm:c<m:=by rw[hc];exact Nat.mod_lt _ (by omega)
 by_cases uM:0<i
 ·have sD:decide ((i:Int)-1≥0)=true:=cF (by omega);have F7:=kN T ha (k:=.i64) (z:=(i:Int)-1) (by omega) (by omega);rw[show((i:Int)-1).toNat=i-1 by omega]at F7;have Bi:=fun H=>sd T (l:=a) (H:=H) (show i-1<a.length by omega)
  have tk:=gN ha.1 (i:=i-1);generalize hx:a.getD (i-1) 0=x at Bi tk;have wx:aV .u64 (x:Int)=x:=wrap_u64 (by omega);have hor:(c*4294967296)|||x=c*4294967296+x:=O9 tk
  have hq:(c*4294967296+x)/m<4294967296:=by
   rw[Nat.div_lt_iff_lt_mul (by omega)]
   have:(c+1)*4294967296<=m*4294967296:=Nat.mul_le_mul_right _ hcm
   rw[Nat.mul_comm 4294967296 m];omega
  have wq:aV .u64 (((c*4294967296+x)/m:Nat):Int)=((c*4294967296+x)/m:Nat):=wrap_u64 (by omega);have w5:aV .i64 ((i:Int)-1-1)=(i:Int)-1-1:=by rw[wrap_i64 (by omega) (by omega)]
  have Bd:=Le C (b:=0) (n:=a.length) (k:=.i64) (z:=(i:Int)-1) (by omega) (by omega);rw[show((i:Int)-1).toNat=i-1 by omega]at Bd;have jN:i-1<out.length:=by omega
  have fK:=fun z H=>tt (H:=H) (z:=z) jN
  simp only[↓reduceIte,gD,kX,gM,fE,gz,dm,fu,kW,gH,gR,eG,ga,dF,iv,gh,ie,wD,cz,aP,dU,cT,ec,aN,aP9,bQ,bO,dG,aPp,oR,AO,aa,ne_eq,ae,not_false_eq_true,aMg,bK,aQd,aP7,cR,fU,aNj,jz,jy,hl,g0,g1,g6,g7,g8,sD,F7,Bi,Bd,fK,fD hz.1 hz.2.1,fD hz.2.1 hz.1,iN,wx,wm,wq,w5,wrap_u32,vU (show c<4294967296 by omega),IA (show c*4294967296<18446744073709551616 by omega) (show x<18446744073709551616 by omega),hor,Qg h0,qL h0,kS (vw C),AV.cells];have hdr:=yC uM hi;rw[hx]at hdr;have hdiv:=Nat.div_add_mod (val (a.drop i)) m;rw[<-hc]at hdiv;have key:val (a.drop (i-1))=(c*4294967296+x)+m*(4294967296*(val (a.drop i)/m)):=by
   rw[hdr,<-hdiv,aQa,hdiv]
   have:4294967296*(m*(val (a.drop i)/m))=m*(4294967296*(val (a.drop i)/m)):=by ac_rfl
   omega
  refine⟨_,(by first|omega|(simp;omega)),i-1,out.set (i-1) ((c*4294967296+x)/m%4294967296),(c*4294967296+x)%m,rfl,(by first|trivial|rfl|assumption|(congr 1;omega)|(simp;done)|(simp;omega)),(by first|trivial|rfl|assumption|(congr 1;omega)|(simp;done)|(simp;omega)),(by first|trivial|rfl|assumption|(congr 1;omega)|(simp;done)|(simp;omega)),(by first|trivial|rfl|assumption|(congr 1;omega)|(simp;done)|(simp;omega)),(by first|trivial|rfl|assumption|(congr 1;omega)|(simp;done)|(simp;omega)),(by first|trivial|rfl|assumption|(congr 1;omega)|(simp;done)|(simp;omega)),(by first|trivial|rfl|assumption|(congr 1;omega)|(simp;done)|(simp;omega)),?_,?_,?_,?_,?_⟩
  ·omega
  ·simpa using ho
  ·exact dK hd (by omega)
  ·rw[key,Nat.add_mul_mod_self_left]
  ·rw[ym uM (by omega),hv,key,Nat.add_mul_div_left _ _ (by omega),aRk hq]
 ·have sD:decide ((i:Int)-1≥0)=false:=cH (by omega);obtain rfl:i=0:=by omega
  simp only[aQh]at hc hv;have AB:fG (.aJ (cP out) a.length) out:=⟨hd,.inl (by rw[ho])⟩;obtain⟨r,hr,I6⟩:=kJ C AB (by omega);have lW:=ed hr;have gf:oG false [.cells .live (cP out)] [.aI 0 0 a.length 1 a.length]=some ([.aJ (cP out) a.length],[0]):=by
   rw[kV]
   have:=wu (H:=[.cells .live (cP out)]) (b:=0) (l:=out) (st:=.live) rfl (by decide)
   rwa[ho]at this
  simp only[↓reduceIte,gD,kX,gM,fE,gz,dm,fu,kW,gH,gR,eG,kO,ga,dF,iv,gh,ie,wD,cz,aP,dT,cT,ec,qu,aN,aRg,bQ,bO,dG,aPp,oR,AO,aa,ne_eq,ae,not_false_eq_true,aMg,bK,aQd,aP7,jz,jy,hl,g0,g1,g6,g7,g8,sD,fD hz.1 hz.2.1,fD hz.2.1 hz.1,iN,wrap_u32,gf,lW,aL I6,aLs];refine⟨r,?_,_,I6,kq _,?_⟩
  ·rw[aRk (by omega),hc]
  ·rw[jY,hv]
end Go.Proofs.YtblnjkjjedanaaaGreatDoor
