/- A part of the proof that PairChecks returns true for every input; no condition of its own. -/
import Derived.Test.YtblnjkjjedanaaaGreatDoorTak
set_option linter.all false
set_option maxHeartbeats 100000000
set_option maxRecDepth 100000
open List renaming length_append->aMf,getElem?_append_left->aNq,length_set->aO8,getD_eq_getElem?_getD->aQP,getElem?_set_ne->aNh,append_assoc->aRd,getElem?_set_self->aNl,zipWith->aSR,getElem?_eq_getElem->aL5,length_singleton->aU9,length_map->aTV,eq_nil_of_length_eq_zero->aTY,length_cons->aMm,length_replicate->aT1,all_cons->aN1,getElem_of_mem->aTU,length_range->aVa,length_zipWith->aSY,getElem?_eq_some_iff->aKS,all_nil->aPy,getElem?_replicate->aVb,cons_append->aPr,take_length->aQV,mem_append->aLV,mem_map->aMg,getElem?_set->aKQ,getElem?_map->aLI,length_take->aMo,getElem?_cons_succ->aPd,mem_cons->aMc,takeWhile_cons->aSX,mem_singleton->aMh,take->aUr,all_eq_true->aLN
open Option renaming getD_some->aMp,some->aKV,getD_none->aVg
open Bool renaming and_self->aPt,not_false->aVd,false_eq_true->aKT
open Nat renaming add_assoc->aKU,le_refl->aKR,min_self->aT0,zero_le->aVe,reduceLT->aa,reduceEqDiff->ae,reduceAdd->ah,reduceLeDiff->ai,reduceMul->ak
open Rat renaming divInt_eq_div->aVc,num_divInt_den->aSx
open Int renaming reduceLE->an,reduceLT->ao,reduceToNat->aq,reduceGE->au,reduceAdd->aA,reduceNeg->aB,reduceBEq->aD,reduceBNe->aE
namespace Go.Proofs.YtblnjkjjedanaaaGreatDoor
open Go Dv Dv.b7
variable{E:Env}[C:Ctx E]
def eV:Nat->V3
 |0=>Dy
 |1=>G4
 |_=>G1
theorem Uk(i:Nat):BV 1 (eV i):=by
 unfold eV
 split
 ·exact kC.1
 ·exact kC.2.1
 ·exact kC.2.2
def SP(d:V3)(ts:List Tw):Prop:=∃rest,ts=ed d v0::rest/\rest.length<=2/\∀t∈rest,∃j,t=kd (dH d (eV j))
theorem V7{cs:List AV}{t0 t1:Tw}(h:oE cs [t0,t1]):∃kV k7 kW k6 lH lK lG lI lE lL lC lF,(cs.drop 36).take 12=[.bool kV,k7,.bool kW,k6,.bool lH,lK,.bool lG,lI,.bool lE,lL,.bool lC,lF]/\eY (.agg [.bool kV,k7,.bool kW,k6,.bool lH,lK,.bool lG,lI,.bool lE,lL,.bool lC,lF]) t1.l/\cs.length=48:=by
 cases h with
 |@cons c0 vK _ _ h0 OA h'=>
  cases h' with
  |@cons c1 aju _ _ h1 DY h''=>
   cases h'';obtain⟨jo,ji,jr,jh,kf,jY,kj,j6,kh,j7,ke,j8,kV,k7,kW,k6,lH,lK,lG,lI,lE,lL,lC,lF,e,h2,h3⟩:=h1;simp only[AV.agg.injEq]at e;subst e;refine⟨kV,k7,kW,k6,lH,lK,lG,lI,lE,lL,lC,lF,?_,h3,by rw[aMf,aMf,OA];rfl⟩;rw[show(36:Nat)=c0.length+12 by omega,<-List.drop_drop,List.drop_left];rfl
theorem AI{d:Int}{cl:Bool}{a0 a1 a2 b0 b1 b2 h:List UInt8}(vI:a0.length<=65536)(vH:a1.length<=65536)(vG:a2.length<=65536)(wS:b0.length<=65536)(wk:b1.length<=65536)(wh:b2.length<=65536){k:Nat}(bd:BV k (cT 65536 a0 a1 a2))(G7:k<=1000000000):
  ∃r,aP E 40 [bO 6 d cl a0 a1 a2 b0 b1 b2 h]=some r/\∃ts,sX r ts/\SP (cT 65536 a0 a1 a2) ts:=by
 obtain⟨x,hx,ix⟩:=cw (E:=E) (s0:=a0) (s1:=a1) (s2:=a2) (by omega) (by omega) (by omega);obtain⟨y,hy,iy⟩:=cw (E:=E) (s0:=b0) (s1:=b1) (s2:=b2) (by omega) (by omega) (by omega);obtain⟨D,hD⟩:∃D,D=cT 65536 a0 a1 a2:=⟨_,rfl⟩;rw[<-hD]at ix bd⊢;obtain⟨un,HU,zk,zh,zd,zA,Cx,Cu,CQ,CI,CL,Ce,Cl,BR,CA,BH,BO,CX,Dc,BX,Ca,CE,Cc,BE,Cw,BJ,vw,u7,ve,vA,yH,yS,yF,yC,yn,yB,yt,yR,rfl,iu,iv,iw⟩:=qR (E:=E);have U:=bP iu;have V':=bP iv;have W:=bP iw;have bz:BV 1 v0:=⟨BA,BA,BA⟩;obtain⟨t0,Ie,NB⟩:=dN (E:=E) ix vC bd bz (by omega);obtain⟨c0,rfl,rL,Gj,aac⟩:=fu NB;obtain⟨jo,ji,jr,jh,kf,jY,kj,j6,kh,j7,ke,j8,rfl,-,-,-,P,O⟩:=bM ix;obtain⟨kV,k7,kW,k6,lH,lK,lG,lI,lE,lL,lC,lF,rfl,-,-,-,P1,O1⟩:=bM iy;have Gr:∀aL,aT E aL 70 1 [(0,AV.agg c0)]=some (.aI aL 0 1 24 1,[(aL,.cells .live c0)]):=fun aL=>ee fC rfl (by decide) (by decide) rL
 have Ff:∀p q r aL,aV E [p,q,r,.cells .live c0] aL .append [70,70] [.aH,.aI 3 0 1 24 1]=some (.aI aL 0 1 24 1,[(aL,.cells .live c0)]):=fun p q r aL=>iQ fC (by decide) (by rfl) (by decide) rL Gj (by decide)
 have Dz:∀i,i<3->∃yL yq yM yo yw yO yx ym yr yN yD yK,fD true 12 [.bool zk,zh,.bool zd,zA,.bool Cx,Cu,.bool CQ,CI,.bool CL,Ce,.bool Cl,BR,.bool CA,BH,.bool BO,CX,.bool Dc,BX,.bool Ca,CE,.bool Cc,BE,.bool Cw,BJ,.bool vw,u7,.bool ve,vA,.bool yH,yS,.bool yF,yC,.bool yn,yB,.bool yt,yR] (i*12)=some (.agg [.bool yL,yq,.bool yM,yo,.bool yw,yO,.bool yx,ym,.bool yr,yN,.bool yD,yK])/\eY (.agg [.bool yL,yq,.bool yM,yo,.bool yw,yO,.bool yx,ym,.bool yr,yN,.bool yD,yK]) (eV i):=by
  intro i hi
  match i,hi with
  |0,_=>exact⟨zk,zh,zd,zA,Cx,Cu,CQ,CI,CL,Ce,Cl,BR,rfl,iu⟩
  |1,_=>exact⟨CA,BH,BO,CX,Dc,BX,Ca,CE,Cc,BE,Cw,BJ,rfl,iv⟩
  |2,_=>exact⟨vw,u7,ve,vA,yH,yS,yF,yC,yn,yB,yt,yR,rfl,iw⟩
 refine nY wc ?_;intro ts hl g0;unfold JU bO at*;simp only[↓aN,aO,↓aQ,aJ,↓reduceIte,aa,ah,ae,Tryz.f40,ai,aD,hl,g0,hx,hy,P,O,O1,HU,Ie,Gr,Ff];refine ft (fun k_ ts H=>∃i v HC m cs rest,k_=3-i/\ts.length=146/\gt ts 3=.b9 1 0/\gt ts 7=v/\gt ts 110=.agg [.bool zk,zh,.bool zd,zA,.bool Cx,Cu,.bool CQ,CI,.bool CL,Ce,.bool Cl,BR,.bool CA,BH,.bool BO,CX,.bool Dc,BX,.bool Ca,CE,.bool Cc,BE,.bool Cw,BJ,.bool vw,u7,.bool ve,vA,.bool yH,yS,.bool yF,yC,.bool yn,yB,.bool yt,yR]/\gt ts 111=.int .i64 (i:Int)/\H=HC/\(i<=3)/\(3<=HC.length)/\(HC[1]?=some (.cells .live [.bool jo,ji,.bool jr,jh,.bool kf,jY,.bool kj,j6,.bool kh,j7,.bool ke,j8]))/\(wW 24 3 v HC m cs)/\(m=rest.length+1/\rest.length<=2)/\(oE cs (ed D v0::rest))/\(∀t∈rest,∃j,t=kd (dH D (eV j)))) (3) ?_ ?_
 rotate_left
 ·refine⟨0,(.aI 4 0 1 24 1),[.cells .live [.int .i64 6,.int .i64 d,.bool cl,.str a0,.str a1,.str a2,.str b0,.str b1,.str b2,.str h],.cells .live [.bool jo,ji,.bool jr,jh,.bool kf,jY,.bool kj,j6,.bool kh,j7,.bool ke,j8],.cells .live [.bool kV,k7,.bool kW,k6,.bool lH,lK,.bool lG,lI,.bool lE,lL,.bool lC,lF],.cells .live c0,.cells .live c0],1,c0,[],(by first|omega|rfl|(simp;done)),(by simp only[cP,hl]),?_⟩;simp only[cR,hl,aa,ae]
  iterate 5 refine⟨by first|trivial|rfl|(congr 1;omega)|(simp;done)|(simp;omega),?_⟩
  refine⟨?_,?_,?_,?_,?_,?_,?_⟩
  ·omega
  ·simp
  ·rfl
  ·exact .inr ⟨by omega,4,by omega,by simp,rfl,rfl⟩
  ·exact⟨rfl,by simp⟩
  ·exact oE.one NB rL
  ·simp
 clear hl g0 ts;rintro k_ ts H ⟨i,v,HC,m,cs,rest,rfl,hl,g3,g7,tb,CU,rfl,hi,hCl,OH,pV,hm,hT,jn⟩;refine VS ?_;have c1:=fun l o=>lU (T:=H) (l:=l) (o:=o) (show 1<H.length by omega)
 have YO:=fun n l o=>pC (T:=H) (n:=n) (l:=l) (o:=o) (show 1<H.length by omega)
 have Wt:=fun n o=>pk (n:=n) (o:=o) OH (by decide)
 obtain⟨s8,vN⟩:=hm;have Fy:k9 v=some (m:Int):=by rcases pV with⟨h0,-,-⟩|⟨-,b,-,-,rfl,-⟩;omega;rfl
 by_cases hd:i<3
 ·have dc:decide ((i:Int)<3)=true:=b8 (by omega);have mM:((i:Int)<3)=True:=eq_true (by omega);have w1:aX .i64 ((i:Int)+1)=((i+1:Nat):Int):=by rw[wrap_i64 (by omega) (by omega)];omega
  obtain⟨yL,yq,yM,yo,yw,yO,yx,ym,yr,yN,yD,yK,pz,iz⟩:=Dz i hd;have Z:=bP iz;obtain⟨q,hq,iq⟩:=oJ (E:=E) ix iz bd (Uk i) (by omega);have bq:=jG bd (Uk i);have QK:=gH (E:=E) iq bq (by omega);obtain⟨t,ht,it⟩:=dU (E:=E) iq;obtain⟨c,rfl,iD,vB,Es⟩:=fu it;obtain⟨zO,zK,zI,zQ,Lb,K8,Le,Ll,Lq,Ld,Lh,Lp,rfl,-,-,-,PQ,OQ⟩:=bM iq;have Q:=bP iq;have skip:∀q1 q2:cz,∀(dx:List AV),True:=fun _ _ _=>trivial
  have hK1:3<=(H++[cz.cells gu.live [.bool yL,yq,.bool yM,yo,.bool yw,yO,.bool yx,ym,.bool yr,yN,.bool yD,yK],cz.cells gu.live [.bool zO,zK,.bool zI,zQ,.bool Lb,K8,.bool Le,Ll,.bool Lq,Ld,.bool Lh,Lp]]).length:=by rw[aMf];omega
  have Xq:(H++[cz.cells gu.live [.bool yL,yq,.bool yM,yo,.bool yw,yO,.bool yx,ym,.bool yr,yN,.bool yD,yK],cz.cells gu.live [.bool zO,zK,.bool zI,zQ,.bool Lb,K8,.bool Le,Ll,.bool Lq,Ld,.bool Lh,Lp]])[1]?=some (.cells .live [.bool jo,ji,.bool jr,jh,.bool kf,jY,.bool kj,j6,.bool kh,j7,.bool ke,j8]):=by rw[aNq (by omega)];exact OH
  have PT:wW 24 3 v (H++[cz.cells gu.live [.bool yL,yq,.bool yM,yo,.bool yw,yO,.bool yx,ym,.bool yr,yN,.bool yD,yK],cz.cells gu.live [.bool zO,zK,.bool zI,zQ,.bool Lb,K8,.bool Le,Ll,.bool Lq,Ld,.bool Lh,Lp]]) m cs:=qz pV;by_cases JQ:m<3
  rotate_left
  ·have d3:decide ((m:Int)<3)=false:=cg (by omega);simp only[↓aN,aO,↓aQ,aJ,dJ,↓reduceIte,aa,ah,ae,hl,g3,g7,tb,CU,mM,w1,pz,Z,Q,P,hq,YO,Wt,Fy,d3,aRd,aMf];refine dG ?_;refine⟨_,?_,i+1,v,(H++[cz.cells gu.live [.bool yL,yq,.bool yM,yo,.bool yw,yO,.bool yx,ym,.bool yr,yN,.bool yD,yK],cz.cells gu.live [.bool zO,zK,.bool zI,zQ,.bool Lb,K8,.bool Le,Ll,.bool Lq,Ld,.bool Lh,Lp]]),m,cs,rest,rfl,(by simp only[cP,hl]),?_⟩
   ·first|omega|(simp;omega)
   simp only[cR,hl,aa,ae,g3,g7,tb]
   iterate 5 refine⟨by first|trivial|rfl|(congr 1;omega)|(simp;done)|(simp;omega),?_⟩
   refine⟨?_,?_,?_,?_,?_,?_,?_⟩
   ·omega
   ·exact hK1
   ·exact Xq
   ·exact PT
   ·exact⟨s8,vN⟩
   ·exact hT
   ·exact jn
  have d3:decide ((m:Int)<3)=true:=b8 (by omega);by_cases nM:dH D (eV i)=v0
  ·rw[b8 nM]at QK;simp only[↓aN,aO,↓aQ,aJ,dJ,↓reduceIte,aa,ah,ae,hl,g3,g7,tb,CU,mM,w1,pz,Z,Q,P,hq,YO,Wt,Fy,d3,QK,aRd,aMf];refine dG ?_;refine⟨_,?_,i+1,v,(H++[cz.cells gu.live [.bool yL,yq,.bool yM,yo,.bool yw,yO,.bool yx,ym,.bool yr,yN,.bool yD,yK],cz.cells gu.live [.bool zO,zK,.bool zI,zQ,.bool Lb,K8,.bool Le,Ll,.bool Lq,Ld,.bool Lh,Lp]]),m,cs,rest,rfl,(by simp only[cP,hl]),?_⟩
   ·first|omega|(simp;omega)
   simp only[cR,hl,aa,ae,g3,g7,tb]
   iterate 5 refine⟨by first|trivial|rfl|(congr 1;omega)|(simp;done)|(simp;omega),?_⟩
   refine⟨?_,?_,?_,?_,?_,?_,?_⟩
   ·omega
   ·exact hK1
   ·exact Xq
   ·exact PT
   ·exact⟨s8,vN⟩
   ·exact hT
   ·exact jn
  rw[cg nM]at QK;have JC:(H++[cz.cells gu.live [.bool yL,yq,.bool yM,yo,.bool yw,yO,.bool yx,ym,.bool yr,yN,.bool yD,yK],cz.cells gu.live [.bool zO,zK,.bool zI,zQ,.bool Lb,K8,.bool Le,Ll,.bool Lq,Ld,.bool Lh,Lp]]).length=H.length+2:=by rw[aMf];rfl
  have V8:=hT.len;obtain⟨bU,H2,iR,Ac,t1,t2,t3⟩:=lQ (E:=E) (x:=c) fC (by decide) (AZ PT) (by rw[V8,aMm,s8]) iD vB (by unfold gO;omega) (by omega);rw[JC]at iR t1 t2 t3;simp only[aRd,aPr,List.nil_append,aMf,aMm,List.length_nil,Nat.zero_add,ah]at iR Ac;have km:∀aL,aT E aL 70 1 [(0,AV.agg c)]=some (.aI aL 0 1 24 1,[(aL,.cells .live c)]):=fun aL=>ee fC rfl (by decide) (by decide) iD
  by_cases hme:m=1
  ·have e1:((m:Int)==1)=true:=by rw[hme];rfl
   simp only[↓aN,aO,↓aQ,aJ,dJ,↓reduceIte,aa,ah,ae,hl,g3,g7,tb,CU,mM,w1,pz,Z,Q,P,hq,YO,Wt,Fy,d3,QK,e1,ht,km,iR,Ac,aKU,aRd,aMf];refine dG ?_;refine⟨_,?_,i+1,(.aI (H.length+3) 0 (m+1) 24 (m+1)),H2,(m+1),(cs++c),(rest++[kd (dH D (eV i))]),rfl,(by simp only[cP,hl]),?_⟩
   ·first|omega|(simp;omega)
   simp only[cR,hl,aa,ae,g3,tb]
   iterate 5 refine⟨by first|trivial|rfl|(congr 1;omega)|(simp;done)|(simp;omega),?_⟩
   refine⟨?_,?_,?_,?_,?_,?_,?_⟩
   ·omega
   ·omega
   ·rw[t3 1 (by omega) (oP PT (by omega))];exact Xq
   ·exact .inr ⟨by omega,H.length+3,by omega,by omega,rfl,t1⟩
   ·exact⟨by rw[aMf,aU9];omega,by rw[aMf,aU9];omega⟩
   ·exact hT.app it iD
   ·intro t ht9;rcases aLV.1 ht9 with h9|h9
    ·exact jn t h9
    ·exact⟨i,aMh.1 h9⟩
  ·have ain:m=2:=by omega
   have e1:((m:Int)==1)=false:=by rw[ain];rfl
   obtain⟨b,vO,Ao,hve,Lg⟩:∃b,3<=b/\b<H.length/\v=.aI b 0 m 24 m/\H[b]?=some (.cells .live cs):=by
    rcases pV with⟨h0,-,-⟩|⟨-,b,f1,f2,f3,f4⟩
    ·omega
    ·exact⟨b,f1,f2,f3,f4⟩
   obtain⟨RH,Ln⟩:∃RH,rest=[RH]:=by
    match rest,s8 with
    |[x],_=>exact⟨x,rfl⟩
    |[],h9=>simp at h9;omega
    |_::_::_,h9=>simp at h9;omega
   obtain⟨rn0,rm0,rn1,rm1,rn2,rm2,rn3,rm3,rn4,rm4,rn5,rm5,Cg,ir,alW⟩:=V7 (Ln▸hT);obtain⟨jj,hjj⟩:=jn RH (by rw[Ln];simp);have br:BV (2*(k+1)+1) RH.l:=by rw[hjj];exact jG bd (Uk jj)
   have R:=bP ir;have Da:=zx (E:=E) iq ir bq br (by omega);have b1:=fun n l o=>pC (T:=H) (n:=n) (l:=l) (o:=o) Ao
   have b2:=fun n o=>pk (n:=n) (o:=o) Lg (by decide)
   have h48:(48<=cs.length)=True:=eq_true (by omega);have Wz:((1:Int)<(m:Int))=True:=eq_true (by omega);rw[hve]at g7;have ah1:=hve;subst ah1;by_cases Ov:dH D (eV i)≠v0/\RH.l≠v0/\dH (dH D (eV i)) RH.l=v0
   ·rw[b8 Ov]at Da;simp only[↓aN,aO,↓aQ,aJ,dJ,↓reduceIte,aa,ah,ak,ae,an,aq,hl,g3,g7,tb,CU,mM,w1,pz,Z,Q,P,hq,YO,Wt,Fy,d3,QK,e1,b1,b2,h48,Wz,Cg,R,Da,aRd,aMf];refine dG ?_;refine⟨_,?_,i+1,(.aI b 0 m 24 m),(H++[cz.cells gu.live [.bool yL,yq,.bool yM,yo,.bool yw,yO,.bool yx,ym,.bool yr,yN,.bool yD,yK],cz.cells gu.live [.bool zO,zK,.bool zI,zQ,.bool Lb,K8,.bool Le,Ll,.bool Lq,Ld,.bool Lh,Lp]]),m,cs,rest,rfl,(by simp only[cP,hl]),?_⟩
    ·first|omega|(simp;omega)
    simp only[cR,hl,aa,ae,g3,g7,tb]
    iterate 5 refine⟨by first|trivial|rfl|(congr 1;omega)|(simp;done)|(simp;omega),?_⟩
    refine⟨?_,?_,?_,?_,?_,?_,?_⟩
    ·omega
    ·exact hK1
    ·exact Xq
    ·exact PT
    ·exact⟨s8,vN⟩
    ·exact hT
    ·exact jn
   ·rw[cg Ov]at Da;simp only[↓aN,aO,↓aQ,aJ,dJ,↓reduceIte,aa,ah,ak,ae,an,aq,hl,g3,g7,tb,CU,mM,w1,pz,Z,Q,P,hq,YO,Wt,Fy,d3,QK,e1,b1,b2,h48,Wz,Cg,R,Da,ht,km,iR,Ac,aKU,aRd,aMf];refine dG ?_;refine⟨_,?_,i+1,(.aI (H.length+3) 0 (m+1) 24 (m+1)),H2,(m+1),(cs++c),(rest++[kd (dH D (eV i))]),rfl,(by simp only[cP,hl]),?_⟩
    ·first|omega|(simp;omega)
    simp only[cR,hl,aa,ae,g3,tb]
    iterate 5 refine⟨by first|trivial|rfl|(congr 1;omega)|(simp;done)|(simp;omega),?_⟩
    refine⟨?_,?_,?_,?_,?_,?_,?_⟩
    ·omega
    ·omega
    ·rw[t3 1 (by omega) (oP PT (by omega))];exact Xq
    ·exact .inr ⟨by omega,H.length+3,by omega,by omega,rfl,t1⟩
    ·exact⟨by rw[aMf,aU9];omega,by rw[aMf,aU9];omega⟩
    ·exact hT.app it iD
    ·intro t ht9;rcases aLV.1 ht9 with h9|h9
     ·exact jn t h9
     ·exact⟨i,aMh.1 h9⟩
 ·have dc:decide ((i:Int)<3)=false:=cg (by omega);obtain⟨b,vO,Ao,hve,Lg⟩:∃b,3<=b/\b<H.length/\v=.aI b 0 m 24 m/\H[b]?=some (.cells .live cs):=by
   rcases pV with⟨h0,-,-⟩|⟨-,b,f1,f2,f3,f4⟩
   ·omega
   ·exact⟨b,f1,f2,f3,f4⟩
  have V8:=hT.len;have gg:=iJ (st:=.live) Lg (by decide) (m:=m) (s:=24) (by rw[V8,aMm,s8]) hT.flat;rw[hve]at g7;simp only[↓aN,aO,↓reduceIte,aa,ae,hl,g7,CU,dc,gg];exact⟨ed D v0::rest,.inr ⟨by simp,cs,by rw[aMm,<-s8],hT⟩,rest,rfl,vN,jn⟩
def Wd(ws:List AV):Prop:=ws.length=16/\∀j,j<16->∃z,ws[j]?=some (.int .u64 z)
theorem wd0:Wd [.int .u64 0,.int .u64 0,.int .u64 0,.int .u64 0,.int .u64 0,.int .u64 0,.int .u64 0,.int .u64 0,.int .u64 0,.int .u64 0,.int .u64 0,.int .u64 0,.int .u64 0,.int .u64 0,.int .u64 0,.int .u64 0]:=by refine⟨rfl,fun j hj=>⟨0,?_⟩⟩;rw[show([.int .u64 0,.int .u64 0,.int .u64 0,.int .u64 0,.int .u64 0,.int .u64 0,.int .u64 0,.int .u64 0,.int .u64 0,.int .u64 0,.int .u64 0,.int .u64 0,.int .u64 0,.int .u64 0,.int .u64 0,.int .u64 0]:List AV)=List.replicate 16 (.int .u64 0)from rfl,aVb,if_pos hj]
theorem apy{ws:List AV}(h:Wd ws):∃z0 z1 z2 z3 z4 z5 z6 z7 z8 z9 z10 W8 z12 z13 z14 z15:Int,ws=[.int .u64 z0,.int .u64 z1,.int .u64 z2,.int .u64 z3,.int .u64 z4,.int .u64 z5,.int .u64 z6,.int .u64 z7,.int .u64 z8,.int .u64 z9,.int .u64 z10,.int .u64 W8,.int .u64 z12,.int .u64 z13,.int .u64 z14,.int .u64 z15]:=by
 have hl:=h.1;obtain⟨z0,e0⟩:=h.2 0 (by omega);obtain⟨z1,e1⟩:=h.2 1 (by omega);obtain⟨z2,e2⟩:=h.2 2 (by omega);obtain⟨z3,e3⟩:=h.2 3 (by omega);obtain⟨z4,e4⟩:=h.2 4 (by omega);obtain⟨z5,e5⟩:=h.2 5 (by omega);obtain⟨z6,e6⟩:=h.2 6 (by omega);obtain⟨z7,e7⟩:=h.2 7 (by omega);obtain⟨z8,e8⟩:=h.2 8 (by omega);obtain⟨z9,e9⟩:=h.2 9 (by omega);obtain⟨z10,e10⟩:=h.2 10 (by omega);obtain⟨W8,e11⟩:=h.2 11 (by omega);obtain⟨z12,e12⟩:=h.2 12 (by omega);obtain⟨z13,e13⟩:=h.2 13 (by omega);obtain⟨z14,e14⟩:=h.2 14 (by omega);obtain⟨z15,e15⟩:=h.2 15 (by omega);refine⟨z0,z1,z2,z3,z4,z5,z6,z7,z8,z9,z10,W8,z12,z13,z14,z15,?_⟩
 match ws,hl with
 |[w0,w1,w2,w3,w4,w5,w6,w7,w8,w9,w10,w11,w12,w13,w14,w15],_=>
  simp only[List.getElem?_cons_zero,aPd,aKV.injEq]at e0 e1 e2 e3 e4 e5 e6 e7 e8 e9 e10 e11 e12 e13 e14 e15;rw[e0,e1,e2,e3,e4,e5,e6,e7,e8,e9,e10,e11,e12,e13,e14,e15]
theorem XR{H0:Hp}{r:AV}{ws:List AV}{i:Nat}(hw:Wd ws)(hi:i<1024):
  ∃u H',de E 133 [.b9 H0.length 1,.int .i64 (i:Int)] (H0++[.cells .live (r::ws)])=some (u,H')/\u=.tuple []/\∃ws',H'=H0++[.cells .live (r::ws')]/\Wd ws':=by
 have hi6:i/64<16:=by omega
 obtain⟨z,hz⟩:=hw.2 (i/64) hi6;have ael:∀c,dC E c .shr 3 (.int .i64 (i:Int)) (.int .u64 6)=some (.int .i64 ((i/64:Nat):Int)):=by
  intro c;have h1:((i:Int).fdiv (2^(min (6:Int).toNat IntKind.i64.bits)))=((i/64:Nat):Int):=by rw[show(2:Int)^(min (6:Int).toNat IntKind.i64.bits)=64 from by decide,Int.fdiv_eq_ediv_of_nonneg _ (by decide)];omega
  unfold dC;simp only[h1,if_neg (show¬(6:Int)<0 by decide)]
 obtain⟨s,OF,hand⟩:∃s:Int,0<=s/\∀c,dC E c .and 3 (.int .i64 (i:Int)) (.int .i64 63)=some (.int .i64 s):=by
  refine⟨(BitVec.ofInt 64 (i:Int)&&&BitVec.ofInt 64 63).toNat,by omega,fun c=>?_⟩;have hle:(BitVec.ofInt 64 (i:Int)&&&BitVec.ofInt 64 63).toNat<=63:=by rw[BitVec.toNat_and];exact Nat.and_le_right
  show some (AV.int .i64 (aX .i64 ((BitVec.ofInt 64 (i:Int)&&&BitVec.ofInt 64 63).toNat:Int)))=_
  rw[wrap_i64 (by omega) (by omega)]
 obtain⟨t,auM⟩:∃t:Int,∀c,dC E c .shl 154 (.int .u64 1) (.int .i64 s)=some (.int .u64 t):=by refine⟨aX .u64 (1*2^(min s.toNat IntKind.u64.bits)),fun c=>?_⟩;unfold dC;simp only[if_neg (show¬s<0 by omega)]
 obtain⟨w,hor⟩:∃w:Int,∀c,dC E c .or 154 (.int .u64 z) (.int .u64 t)=some (.int .u64 w):=⟨_,fun c=>rfl⟩;have c1:(((i/64:Nat):Int)<16)=True:=eq_true (by omega);have hzj:(r::ws)[1+i/64]?=some (.int .u64 z):=by rw[Nat.add_comm,aPd];exact hz
 have hwl:=hw.1;have UM:decide (1+(i/64+1)<=ws.length+1)=true:=b8 (by omega);refine gi2 (by rw[C.sj]) (by rw[C.fn];exact arL) (by decide) ?_;intro ts hl g0 g1;unfold aoH;simp only[↓aN,aO,aJ,dJ,↓reduceIte,aa,ah,ae,Tryz.f133,hl,g0,g1,ael,hand,auM,hor,c1,hzj,UM,aKU,aRd,aMf];refine⟨rfl,aUr (i/64) ws++AV.int .u64 w::List.drop (i/64+1) ws,?_,?_,?_⟩
 ·rw[show 1+i/64=(i/64)+1 by omega,show 1+(i/64+1)=(i/64+1)+1 by omega,List.take_succ_cons,List.drop_succ_cons,aPr]
 ·rw[aMf,aMo,aMm,List.length_drop];omega
 ·intro j hj;have e:aUr (i/64) ws++AV.int .u64 w::List.drop (i/64+1) ws=ws.set (i/64) (.int .u64 w):=by rw[List.set_eq_take_append_cons_drop,if_pos (by omega)]
  rw[e,aKQ];by_cases h:i/64=j
  ·rw[if_pos h,if_pos (by omega)];exact⟨w,rfl⟩
  ·rw[if_neg h];exact hw.2 j hj
theorem EZ{a b:List Rat}:∀{n:Nat},eI a (aSR (fun x _=> -x) b b) n= -eI a b n
 |0=>by simp only[eI];grind
 |n+1=>by
  have h1:=EZ (a:=a) (b:=b) (n:=n);have h2:=yf (a:=b) (b:=b) (g:=fun x _=> -x) rfl (by grind) n;rw[eI,eI,h1,h2]
  grind
def sF(a:List Rat)(n:Nat)(line x:List Rat):List Rat:=aSR (fun u v=>u*1+v*(-(eI a x n/eI a line n))) x line
def splitK(a:List Rat)(n:Nat)(line:List Rat)(rows:List (List Rat))(at':Nat):Nat->List (List Rat)
 |0=>[]
 |i+1=>if i=at' then splitK a n line rows at' i else splitK a n line rows at' i++[sF a n line (row rows i)]
theorem rq{a:List Rat}{n:Nat}{line:List Rat}{rows:List (List Rat)}{at':Nat}:∀{i:Nat},(splitK a n line rows at' i).length=if i<=at' then i else i-1
 |0=>by simp[splitK]
 |i+1=>by
  rw[splitK]
  split
  ·rw[rq];split<;>split<;>omega
  ·rw[aMf,rq,aU9];split<;>split<;>omega
structure F6(H0 H':Hp)(B n at' l:Nat)(Zx:Int)(a:List Rat)(rows:List (List Rat)):Prop where
 ex:pQ B H0 H'/\∃Lv rb P ws lq c,H'[B]?=some (.cells .live [Lv,.aI rb 0 1 17 1,.int .i64 Zx])/\rb≠B/\rb<H'.length/\H'[rb]?=some (.cells .live (P::ws))/\Wd ws/\iY P (lq.map fun x=>x*c)/\0<c/\Bq (l+2*(n*l+1)) c/\BL l lq/\lq.length=n/\(lq=row rows at'∨lq=aSR (fun x _=> -x) (row rows at') (row rows at'))/\(eI a lq n).num<0/\nX H' B n Lv (splitK a n lq rows at' rows.length)
theorem RE{H0:Hp}{B n N at':Nat}{Zx:Int}{Lv rv:AV}{a:List Rat}{rows:List (List Rat)}(Ab:B<H0.length)(hB:H0[B]?=some (.cells .live [Lv,.aH,.int .i64 Zx]))(hL:nX H0 B n Lv rows)(zr:at'<rows.length)(hv:iY rv a)(ha:a.length=n)(hn:n<=8)(hR:rows.length<=1000){k l:Nat}(ba:BL k a)(bb:rH l rows)(hk:k+l<=500000)(dY:eI a (row rows at') n≠0)(hN:N<=1000):
  ∃r H',de E 132 [.b9 B 0,rv,.int .i64 (at':Int),.int .i64 (N:Int)] H0=some (r,H')/\r=.tuple []/\F6 H0 H' B n at' l Zx a rows:=by
 obtain⟨h0,b,st,hs,rfl,hbB,VM,hb,fZ,sT,D0⟩:=hL.resolve_left (fun h=>by rw[h.1]at zr;simp at zr);obtain⟨hx,hxl⟩:=D0 at' zr;obtain⟨ca,rfl,ra⟩:=hv;have c1:=fun l o=>lU (T:=H0) (l:=l) (o:=o) Ab
 have c2:=fun l o=>lU (T:=H0) (l:=l) (o:=o) VM
 have c3:=fun o=>kR (o:=o) hB (by decide)
 have c4:=fun o=>kR (o:=o) hb fZ
 have aqB:((at':Int)<(rows.length:Int))=True:=eq_true (by omega);have Hx:hs[at']?=some (hs.getD at' aZ):=by rw[aQP,aL5 (by omega)];rfl
 obtain⟨cx,bs,rx,km,gg⟩:=hx.fz2;have aql:=fun l=>(gg l).1
 have asm:=fun l=>(gg l).2
 have rvx:iY (.aK cx (row rows at').length) (row rows at'):=⟨cx,rfl,rx⟩;have hva:iY (.aK ca a.length) a:=⟨ca,rfl,ra⟩;obtain⟨p,hp,ip⟩:=x6 (E:=E) hva rvx (by omega) (by omega) ba (bb at' zr) (by omega);rw[ha]at ip;obtain⟨VB,Vx,VE,VI,_,_,rfl,-,-,-,-⟩:=bX ip;have P:=aW _ ip;obtain⟨HA,hma,hHA,hML,hBA,-⟩:=EC (bR (AV.agg [.bool VB,Vx,.bool VE,VI])) km;rw[hB]at hBA;have au5:b<HA.length:=by omega
 have c1A:=fun l o=>lU (T:=HA) (l:=l) (o:=o) (show B<HA.length by omega)
 have c2A:=fun l o=>lU (T:=HA) (l:=l) (o:=o) au5
 have c3A:=fun o=>kR (o:=o) hBA (by decide)
 have sp:=gz (E:=E) ip;have pxo:df (hs.getD at' aZ)=true:=by
  rcases hx with⟨cs,e,-⟩|⟨c,st,cs,e,-⟩<;>rw[e]<;>rfl
 have hxc:(hs.getD at' aZ).cells=[hs.getD at' aZ]:=GX pxo;generalize hs.getD at' aZ=x at*;have nN:=fun{dr st:Bool} {bl:List AV} {H:Hp} {k:AV->cE->Prop}=>gn (E:=E) (dr:=dr) (st:=st) (f:=167) (bl:=bl) (H:=H) (k:=k) (bS C (by kernel_rfl))
 have hD:(eI a (row rows at') n).num≠0:=fun e=>dY (Rat.num_eq_zero.1 e)
 refine gi4 (by rw[C.sj]) (by rw[C.fn];exact aom) (by decide) ?_;intro ts hl g0 g1 g2 g3;unfold aqf;by_cases NH:0<(eI a (row rows at') n).num
 case' pos=>
  have uf:decide (yX (eI a (row rows at') n).num>0)=true:=by unfold yX;rw[if_neg hD,if_neg (by omega)];rfl
  have hx2:=hx.mono hHA;obtain⟨cx2,bs2,rx2,Kb,aut⟩:=hx2.fz2;have awu:=fun l=>(aut l).2
  obtain⟨HF,asy,hHF,Po,hBF,-⟩:=EC (H:=HA) false Kb;simp only[aKT,if_false]at asy;rw[hBA]at hBF;rw[hML]at Po;have hHF:=hHA.trans hHF;have c1F:=fun l o=>lU (T:=HF) (l:=l) (o:=o) (show B<HF.length by omega)
  have c3F:=fun o=>kR (o:=o) hBF (by decide)
  obtain⟨y,hy,iy⟩:=IS (E:=E) (v:=.aK cx2 (row rows at').length) ⟨cx2,rfl,rx2⟩ (by omega);obtain⟨u,hu,iu⟩:=tW (E:=E) ip;obtain⟨zk,zh,zd,zA,_,_,rfl,-,-,-,-⟩:=bX iu;have U:=aW _ iu;obtain⟨cy,rfl,ry⟩:=id iy;simp only[↓aN,aO,↓aQ,aJ,dJ,↓reduceIte,aa,ah,ae,Tryz.f132,hl,g0,g1,g2,c1,c2,c3,c4,aqB,Hx,aql,hma,hML,Po,awu,asy,hp,P,U,hy,hu,pxo,hxc,sp,uf,c1F,c3F,tL,aRd,aMf]
 case' neg=>
  have uf:decide (yX (eI a (row rows at') n).num>0)=false:=by unfold yX;rw[if_neg hD,if_pos (by omega)];rfl
  simp only[↓aN,aO,↓aQ,aJ,dJ,↓reduceIte,aa,ah,ae,Tryz.f132,hl,g0,g1,g2,c1,c2,c3,c4,aqB,Hx,aql,hma,hML,hp,P,pxo,hxc,sp,uf,c1A,c3A,aRd,aMf]
 case' pos=>
  generalize hY:AV.aK cy (aSR (fun x x_1=> -x) (row rows at') (row rows at')).length=Y;generalize hPC:[AV.bool zk,zh,AV.bool zd,zA]=PC;obtain⟨lq,FM⟩:∃lq,lq=aSR (fun x _=> -x) (row rows at') (row rows at'):=⟨_,rfl⟩;obtain⟨pl,OX⟩:∃pl,pl= -eI a (row rows at') n:=⟨_,rfl⟩;have hYr:qn H0 B Y lq:=by rw[<-hY,FM];exact .inl ⟨cy,rfl,ry⟩
  have Ox:lq.length=n:=by rw[FM,aSY,hxl,aT0]
  have blq:BL l lq:=by intro q hq;rw[FM,nT,aMg]at hq;obtain⟨x,hx,rfl⟩:=hq;exact(bb at' zr x hx).neg
  have tE:dA (.agg PC) pl:=by rw[<-hPC,OX];exact iu
  have hdl:eI a lq n=pl:=by rw[FM,OX,EZ]
  have abi:pl.num<0:=by rw[OX,Rat.neg_num];omega
  have amW:lq=row rows at'∨lq=aSR (fun x _=> -x) (row rows at') (row rows at'):=.inr FM;obtain⟨pc0,pc1,pc2,pc3,Vr⟩:∃a b c d,PC=[.bool a,b,.bool c,d]:=⟨_,_,_,_,hPC.symm⟩;have hPM:aU pc1=true/\df pc1=true/\aU pc3=true/\df pc3=true:=by subst Vr;exact aW _ tE
 case' neg=>
  generalize hY:x=Y;generalize hPC:[AV.bool VB,Vx,AV.bool VE,VI]=PC;generalize HA=HF at*;obtain⟨lq,FM⟩:∃lq,lq=row rows at':=⟨_,rfl⟩;obtain⟨pl,OX⟩:∃pl,pl=eI a (row rows at') n:=⟨_,rfl⟩;have hYr:qn H0 B Y lq:=by rw[<-hY,FM];exact hx
  have Ox:lq.length=n:=by rw[FM,hxl]
  have blq:BL l lq:=by rw[FM];exact bb at' zr
  have tE:dA (.agg PC) pl:=by rw[<-hPC,OX];exact ip
  have hdl:eI a lq n=pl:=by rw[FM,OX]
  have abi:pl.num<0:=by rw[OX];omega
  have amW:lq=row rows at'∨lq=aSR (fun x _=> -x) (row rows at') (row rows at'):=.inl FM;have hHF:=hHA;have hBF:=hBA;have Po:=hML;obtain⟨pc0,pc1,pc2,pc3,Vr⟩:∃a b c d,PC=[.bool a,b,.bool c,d]:=⟨_,_,_,_,hPC.symm⟩;have hPM:aU pc1=true/\df pc1=true/\aU pc3=true/\df pc3=true:=by subst Vr;exact aW _ tE
 all_goals
  obtain⟨VP,O0⟩:∃VP,VP=HF++[cz.cells gu.live [AV.aK ca a.length],cz.cells gu.live [Y],cz.cells gu.live PC]:=⟨_,rfl⟩;have hl3:VP.length=H0.length+3:=by rw[O0,aMf,Po];rfl
  have q0:VP[H0.length]?=some (.cells .live [AV.aK ca a.length]):=by rw[O0,jU Po];rfl
  have q1:VP[H0.length+1]?=some (.cells .live [Y]):=by rw[O0,sb Po];rfl
  have q2:VP[H0.length+2]?=some (.cells .live PC):=by rw[O0,sb Po];rfl
  have aye:pQ B H0 VP:=hHF.trans (by rw[O0];exact pQ.app _);have hB3:VP[B]?=some (.cells .live [AV.aI b 0 rows.length 1 rows.length,AV.aH,AV.int IntKind.i64 Zx]):=by rw[O0,aNq (by omega)];exact hBF
  rw[<-O0];refine ft (fun k_ ts H=>∃i v HC vr,k_=rows.length-i/\ts.length=108/\gt ts 0=.b9 B 0/\gt ts 2=.int .i64 (at':Int)/\gt ts 3=.int .i64 (N:Int)/\gt ts 8=.b9 (H0.length+1) 0/\gt ts 10=.func 167 [] [.b9 H0.length 0,.b9 (H0.length+2) 0,.b9 (H0.length+1) 0]/\gt ts 11=v/\gt ts 39=.aI b 0 rows.length 1 rows.length/\gt ts 40=.int .i64 (rows.length:Int)/\gt ts 41=.int .i64 (i:Int)/\H=HC/\(i<=rows.length)/\(pQ B VP HC)/\(HC[B]?=VP[B]?)/\(wW 1 (H0.length+3) v HC (splitK a n lq rows at' i).length vr)/\(vr.length=(splitK a n lq rows at' i).length/\∀j,j<vr.length->iY (vr.getD j aZ) (row (splitK a n lq rows at' i) j)/\(row (splitK a n lq rows at' i) j).length=n)) (rows.length) ?_ ?_
  rotate_left
  ·refine⟨0,.aH,VP,[],(by first|omega|rfl|(simp;done)),(by simp only[cP,hl]),?_⟩;simp only[cR,hl,aa,ae,g0,g2,g3]
   iterate 10 refine⟨by first|trivial|rfl|(congr 1;omega)|(simp;done)|(simp;omega),?_⟩
   refine⟨?_,?_,?_,?_,?_⟩
   ·omega
   ·exact pQ.refl
   ·trivial
   ·exact .inl ⟨rfl,rfl,rfl⟩
   ·exact⟨rfl,by simp⟩
  clear hl g0 g1 g2 g3 ts;rintro k_ ts H ⟨i,v,HC,vr,rfl,hl,g0,g2,g3,g8,g10,g11,g39,g40,g41,rfl,hi,Wm,hBC,pV,Gn⟩;refine VS ?_;have hlC:H0.length+3<=H.length:=by have:=Wm.1;omega
  obtain⟨st0,d0,e0⟩:=Wm.2 H0.length _ _ (by omega) q0 (by decide);obtain⟨st1,d1,e1⟩:=Wm.2 (H0.length+1) _ _ (by omega) q1 (by decide);obtain⟨st2,d2,e2⟩:=Wm.2 (H0.length+2) _ _ (by omega) q2 (by decide);have hLe:pQ B H0 H:=aye.trans Wm;obtain⟨stb,db,eb⟩:=hLe.2 b _ _ (by omega) hb fZ;have cb:=fun o=>kR (o:=o) eb db
  have iD:=rq (a:=a) (n:=n) (line:=lq) (rows:=rows) (at':=at') (i:=i);have yQ:(splitK a n lq rows at' i).length<=i:=by rw[iD];split<;>omega
  by_cases hd:i<rows.length
  ·have dc:decide ((i:Int)<(rows.length:Int))=true:=b8 (by omega);have mM:((i:Int)<(rows.length:Int))=True:=eq_true (by omega);have w1:aX .i64 ((i:Int)+1)=((i+1:Nat):Int):=by rw[wrap_i64 (by omega) (by omega)];omega
   obtain⟨Je,ayb⟩:=D0 i hd;have hgi:hs[i]?=some (hs.getD i aZ):=by rw[aQP,aL5 (by omega)];rfl
   by_cases uv:i=at'
   ·have ais:((i:Int)!=(at':Int))=false:=by rw[uv];simp
    have hsk:splitK a n lq rows at' (i+1)=splitK a n lq rows at' i:=by rw[splitK,if_pos uv]
    simp only[↓aN,aO,aJ,↓reduceIte,aa,ae,hl,g2,g39,g40,g41,mM,w1,cb,hgi,ais];refine dG ?_;refine⟨_,?_,i+1,v,H,vr,rfl,(by simp only[cP,hl]),?_⟩
    ·first|omega|(simp;omega)
    simp only[cR,hl,aa,ae,g0,g2,g3,g8,g10,g11,g39,g40]
    iterate 10 refine⟨by first|trivial|rfl|(congr 1;omega)|(simp;done)|(simp;omega),?_⟩
    refine⟨?_,?_,?_,?_,?_⟩
    ·omega
    ·exact Wm
    ·exact hBC
    ·rw[hsk];exact pV
    ·rw[hsk];exact Gn
   ·have ais:((i:Int)!=(at':Int))=true:=by rw[bne_iff_ne];omega
    have hsk:splitK a n lq rows at' (i+1)=splitK a n lq rows at' i++[sF a n lq (row rows i)]:=by rw[splitK,if_neg uv]
    obtain⟨ci,bi,fi,ri,hbi⟩:=Je.fzm hLe 38;obtain⟨cY,bY,fY,rY,hbY⟩:=hYr.fzm hLe 37;have hpf:∀v∈PC,Flat v:=by rw[Vr]at tE⊢;exact(je.cons tE .nil).flat
    have gg:=X6 fi e0 d0 (show Dv.fz H 39 (AV.aK ca a.length)=some (.aK ca a.length,[])from rfl) e2 d2 hpf e1 d1 fY;have amO:=tE;rw[Vr]at amO;have ap4:pl≠0:=fun e=>by rw[e]at abi;exact absurd abi (by decide)
    have bpl:Bq (n*(k+l+1)+1) pl:=by rw[<-hdl,<-ha];exact xI ba blq (by omega) (aKR _)
    have hnk:n*(k+l+1)<=8*500001:=Nat.mul_le_mul hn (by omega);obtain⟨r,hr,ir⟩:=Me (E:=E) hva (u:=.aK ci (row rows i).length) (w:=.aK cY lq.length) (b:=row rows i) (d:=lq) ⟨ci,rfl,ri⟩ ⟨cY,rfl,rY⟩ amO (by omega) (by omega) (by omega) (k:=k+l) (fun q hq=>(ba q hq).mono (by omega)) (fun q hq=>(bb i hd q hq).mono (by omega)) (fun q hq=>(blq q hq).mono (by omega)) bpl ap4 (by omega) (by omega);rw[ha,<-hdl]at ir;obtain⟨cr,rfl,rr⟩:=ir;rw[<-Vr]at hr;have Hf:(cE.marks (bi++(H0.length::[]++((H0.length+2)::[]++((H0.length+1)::bY))))).app H=Dv.mark H (bi++(H0.length::[]++((H0.length+2)::[]++((H0.length+1)::bY)))):=rfl;have ahQ:∀x∈(bi++(H0.length::[]++((H0.length+2)::[]++((H0.length+1)::bY)))),x<H0.length+3/\B<x:=by
     intro x hx;simp only[aLV,aMc,List.not_mem_nil,or_false]at hx;rcases hx with hx|hx|hx|hx|hx
     ·have:=hbi x hx;omega
     ·omega
     ·omega
     ·omega
     ·have:=hbY x hx;omega
    generalize(bi++(H0.length::[]++((H0.length+2)::[]++((H0.length+1)::bY))))=bs3 at*;have ac7:=W4 pV (fun b hb=>(ahQ b hb).1);have hLD:pQ B H (Dv.mark H bs3):=pQ.mark bs3 (fun b hb=>(ahQ b hb).2);have hBD:(Dv.mark H bs3)[B]?=H[B]?:=vT (fun h=>by have:=(ahQ B h).2;omega);have hlD:(Dv.mark H bs3).length=H.length:=lX _ _;generalize Dv.mark H bs3=HD at*;obtain⟨bU,H2,iR,Ac,t1,t2,t3⟩:=lQ (E:=E) (H:=HD) (x:=[.aK cr (aSR (fun x y:Rat=>x*1+y*(-(eI a (row rows i) n/eI a lq n))) (row rows i) lq).length]) GG (by decide) (AZ ac7) (by omega) rfl rfl (by unfold gO;omega) (by omega);have km:∀aL,aT E aL 65 1 [(0,AV.aK cr (aSR (fun x y:Rat=>x*1+y*(-(eI a (row rows i) n/eI a lq n))) (row rows i) lq).length)]=some (.aI aL 0 1 1 1,[(aL,.cells .live [AV.aK cr (aSR (fun x y:Rat=>x*1+y*(-(eI a (row rows i) n/eI a lq n))) (row rows i) lq).length])]):=fun aL=>ee GG rfl (by decide) (by decide) rfl
    simp only[↓aN,aO,aJ,↓reduceIte,aa,ae,hl,g2,g10,g11,g39,g40,g41,mM,w1,cb,hgi,ais,gg,hr,tL,Hf,nN,km,ep,iR,Ac];refine dG ?_;refine⟨_,?_,i+1,(.aI (HD.length+1) 0 ((splitK a n lq rows at' i).length+1) 1 ((splitK a n lq rows at' i).length+1)),H2,vr++[AV.aK cr (aSR (fun x y:Rat=>x*1+y*(-(eI a (row rows i) n/eI a lq n))) (row rows i) lq).length],rfl,(by simp only[cP,hl]),?_⟩
    ·first|omega|(simp;omega)
    simp only[cR,hl,aa,ae,g0,g2,g3,g8,g10,g39,g40]
    iterate 10 refine⟨by first|trivial|rfl|(congr 1;omega)|(simp;done)|(simp;omega),?_⟩
    refine⟨?_,?_,?_,?_,?_⟩
    ·omega
    ·refine⟨⟨by have:=Wm.1;have:=hLD.1;omega,fun q hqB Xu=>by rw[t3 q (by have:=Wm.1;have:=hLD.1;omega) (oP ac7 (by omega))];exact(Wm.trans hLD).1.2 q hqB Xu⟩,fun q stq csq hqB hq Y6=>?_⟩;have Xu:q<VP.length:=(aKS.1 hq).1;obtain⟨sta,da,ea⟩:=(Wm.trans hLD).2 q stq csq hqB hq Y6;exact⟨sta,da,by rw[t3 q (by omega) (oP ac7 (by omega))];exact ea⟩
    ·rw[t3 B (by omega) (oP ac7 (by omega)),hBD];exact hBC
    ·rw[hsk,aMf,aU9];exact .inr ⟨by omega,HD.length+1,by omega,by omega,rfl,t1⟩
    ·rw[hsk];refine⟨by rw[aMf,aMf,Gn.1];rfl,fun j hj=>?_⟩;rw[aMf,aU9]at hj;by_cases hjl:j<vr.length
     ·have h9:=Gn.2 j hjl;rw[me hjl,show row (splitK a n lq rows at' i++[sF a n lq (row rows i)]) j=row (splitK a n lq rows at' i) j from me (by rw[<-Gn.1];exact hjl)];exact h9
     ·have hje:j=vr.length:=by omega
      subst hje;rw[lS rfl,show row (splitK a n lq rows at' i++[sF a n lq (row rows i)]) vr.length=sF a n lq (row rows i)from lS Gn.1];refine⟨⟨cr,rfl,rr⟩,?_⟩;show(sF a n lq (row rows i)).length=n
      unfold sF;rw[aSY,ayb,Ox,aT0]
  ·have dc:decide ((i:Int)<(rows.length:Int))=false:=cg (by omega);obtain rfl:i=rows.length:=by omega
   have hB5:=hBC.trans hB3;have hvo:v.cells=[v]/\df v=true:=by rcases pV with⟨-,-,rfl⟩|⟨-,b',-,-,rfl,-⟩<;>exact⟨rfl,rfl⟩
   have cB:=fun o=>kR (o:=o) hB5 (by decide)
   have stB:=pn (n:=1) (xs:=[v]) (o:=0) hB5;have pbB:∀x,eE H B x=H.set B x:=fun x=>kD (by omega)
   obtain⟨H5,hH5⟩:∃H5,H5=H.set B (.cells .live [v,.aH,.int .i64 Zx]):=⟨_,rfl⟩;have hl5:H5.length=H.length:=by rw[hH5,aO8]
   have hB6:H5[B]?=some (.cells .live [v,.aH,.int .i64 Zx]):=by rw[hH5,aNl (by omega)]
   have ZW:pQ B H H5:=by rw[hH5];exact pQ.set _
   have cB5:=fun o=>kR (o:=o) hB6 (by decide)
   obtain⟨st5,d5,e5⟩:=ZW.2 (H0.length+1) _ _ (by omega) e1 d1;have cY5:=fun o=>kR (o:=o) e5 d5
   obtain⟨cZ,bZ,rZ,hbZ,avE⟩:=(hYr.mono (hLe.trans ZW)).fz2;have amj:=(avE []).2;rw[List.append_nil]at amj;obtain⟨pr,hpr,c,HR,bc,ipr⟩:=Ea (E:=E) (v:=.aK cZ lq.length) ⟨cZ,rfl,rZ⟩ (k:=l) blq (by omega) (by omega);obtain⟨cp,rfl,rp⟩:=id ipr;obtain⟨H6,aeb,ahw,hl6,hB7,-⟩:=EC (H:=H5) false hbZ;have aeb:=aeb [];simp only[aKT,if_false,List.append_nil]at aeb;rw[hB6]at hB7;obtain⟨RP,ahR⟩:∃P,P=AV.aK cp (lq.map fun x=>x*c).length:=⟨_,rfl⟩;rw[<-ahR]at hpr;have U0:RP.cells=[RP]/\df RP=true/\aU RP=true/\bR RP=false:=by subst ahR;exact⟨rfl,rfl,rfl,rfl⟩
   have amD:eE H B (.cells .live [v,.aH,.int .i64 Zx])=H5:=by rw[pbB,hH5]
   simp only[↓aN,aO,aJ,dJ,↓reduceIte,aa,ah,ae,ai,hl,g0,g11,g40,g41,dc,stB,hvo,amD,cB5];refine ew 1 ?_;simp only[↓aN,aO,↓aQ,aJ,dJ,↓reduceIte,aa,ah,ae,ao,ai,hl,g3,g8,cY5,amj,hpr,U0,aeb,hl6,hl5];have hLv:nX H6 B n v (splitK a n lq rows at' rows.length):=by
    refine nX.mono ?_ (ZW.trans ahw);rcases pV with⟨e1,e2,e3⟩|⟨e1,bv,e2,e3,e4,e5⟩
    ·exact .inl ⟨aTY e1,e3⟩
    ·refine .inr ⟨e1,bv,.live,vr,e4,by omega,e3,e5,by decide,Gn.1,fun j hj=>?_⟩;obtain⟨⟨cs,f1,f2⟩,f3⟩:=Gn.2 j (by omega);exact⟨.inl ⟨cs,f1,f2⟩,f3⟩
   obtain⟨L6,hL6⟩:∃L6,L6=H.length:=⟨_,rfl⟩;have XD:H6.length=L6:=by omega
   have apZ:pQ B H0 H6:=hLe.trans (ZW.trans ahw);have Zq:B<H6.length:=by omega
   rw[<-hL6];clear pV Wm hBC eb cb hB5 cB stB pbB hH5 hl5 ZW e5 cY5 ahw hl6 hLe hlC hL6 e0 e1 e2 amD;refine ft (fun k_ ts H=>∃j ws,k_=N-j/\ts.length=108/\gt ts 0=.b9 B 0/\gt ts 16=.b9 L6 0/\gt ts 90=.int .i64 (N:Int)/\gt ts 91=.int .i64 (j:Int)/\H=H6++[.cells .live (RP::ws)]/\(j<=N)/\(Wd ws)) (N) ?_ ?_
   rotate_left
   ·refine⟨0,[.int .u64 0,.int .u64 0,.int .u64 0,.int .u64 0,.int .u64 0,.int .u64 0,.int .u64 0,.int .u64 0,.int .u64 0,.int .u64 0,.int .u64 0,.int .u64 0,.int .u64 0,.int .u64 0,.int .u64 0,.int .u64 0],(by first|omega|rfl|(simp;done)),(by simp only[cP,hl]),?_⟩;simp only[cR,hl,aa,ae,g0]
    iterate 5 refine⟨by first|trivial|rfl|(congr 1;omega)|(simp;done)|(simp;omega),?_⟩
    refine⟨?_,?_⟩
    ·omega
    ·exact wd0
   clear hl g0 g2 g3 g8 g10 g11 g39 g40 g41 ts;rintro k_ ts H ⟨j,ws,rfl,hl,g0,g16,g90,g91,rfl,hj,hw⟩;refine VS ?_;by_cases tz:j<N
   ·have dc:decide ((j:Int)<(N:Int))=true:=b8 (by omega);have w1:aX .i64 ((j:Int)+1)=((j+1:Nat):Int):=by rw[wrap_i64 (by omega) (by omega)];omega
    obtain⟨u,H',oc,rfl,ws',rfl,hw'⟩:=XR (E:=E) (H0:=H6) (r:=RP) (i:=j) hw (by omega);rw[XD]at oc;simp only[↓aN,aO,↓aQ,aJ,aa,ae,hl,g16,g90,g91,dc,w1,oc];refine dG ?_;refine⟨_,?_,j+1,ws',rfl,(by simp only[cP,hl]),?_⟩
    ·first|omega|(simp;omega)
    simp only[cR,hl,aa,ae,g0,g16,g90]
    iterate 5 refine⟨by first|trivial|rfl|(congr 1;omega)|(simp;done)|(simp;omega),?_⟩
    refine⟨?_,?_⟩
    ·omega
    ·exact hw'
   ·have dc:decide ((j:Int)<(N:Int))=false:=cg (by omega);have c16:=fun l o=>lU (T:=H6) (l:=l) (o:=o) Zq
    have cB7:=fun o=>kR (o:=o) hB7 (by decide)
    have hwl:=hw.1;have Ok:aUr 16 ws=ws:=by rw[<-hwl,aQV]
    have aqA:(17<=ws.length+1)=True:=eq_true (by omega);have s16:=fun xs l o=>sJ (T:=H6) (n:=1) (xs:=xs) (l:=l) (o:=o) Zq
    have st7:=fun xs o=>pn (n:=1) (xs:=xs) (o:=o) hB7
    have p16:=fun x l=>rW (T:=H6) (l:=l) (x:=x) Zq
    have hwo:(RP::ws).all df=true:=by rw[aN1,U0.2.1,Bool.true_and,aLN];intro w hw9;obtain⟨j9,hj9,e9⟩:=aTU hw9;obtain⟨z9,hz9⟩:=hw.2 j9 (by omega);rw[aL5 hj9,e9]at hz9;simp only[aKV.injEq]at hz9;rw[hz9];rfl
    have alU:∀aL,aT E aL 201 1 [(0,AV.agg (RP::ws))]=some (.aI aL 0 1 17 1,[(aL,.cells .live (RP::ws))]):=fun aL=>ee Gp rfl (by decide) (by decide) (by show(RP::ws).length=17;rw[aMm,hwl])
    have agD:∀y l aL,aV E (H6++y:: .cells .live (RP::ws)::l) aL .append [201,201] [.aH,.aI (L6+1) 0 1 17 1]=some (.aI aL 0 1 17 1,[(aL,.cells .live (RP::ws))]):=fun y l aL=>iQ Gp (by decide) (by rw[sb XD];rfl) (by decide) (by rw[aMm,hwl]) hwo (by decide)
    simp only[↓aN,aO,aJ,dJ,↓reduceIte,aa,ah,ae,ai,hl,g0,g16,g90,g91,dc,c16,cB7,XD,Ok,aqA,alU,agD,s16,st7,p16,aKU,aRd,aMf];refine⟨?_,rfl,F6.mk ⟨?_,v,L6+2,RP,ws,lq,c,?_,by omega,?_,?_,hw,by rw[ahR];exact ipr,HR,by rw[Ox]at bc;exact bc,blq,Ox,amW,by rw[hdl];exact abi,?_⟩⟩
    ·rw[show(B==L6+1)=false from beq_eq_false_iff_ne.2 (by omega)];rfl
    ·exact apZ.trans ((pQ.set _).trans (pQ.app _))
    ·rw[aNq (by rw[aO8];exact Zq),aNl Zq]
    ·rw[aMf,aO8,XD];exact Nat.lt_succ_self _
    ·rw[sb (by rw[aO8];exact XD)];rfl
    ·exact hLv.mono ((pQ.set _).trans (pQ.app _))
theorem PE{v:AV}(pv:aU v=true):aP E 129 [.aH,.func 130 [] [.eX [v] 0]]=some (.int .i64 (-1)):=by refine dX ?_;refine tp agb ?_;intro ts hl g0 g1;unfold ajs;simp only[↓aN,aO,aJ,aa,ae,Tryz.f129,aB,hl,g0];refine ew 1 ?_;simp only[↓aN,aO,↓reduceIte,aa,ae,ao,aB,hl]
theorem Qg{H:Hp}{B n x:Nat}{Lv rv:AV}{a:List Rat}{rows:List (List Rat)}(hL:nX H B n Lv rows)(hx:H[x]?=some (.cells .live [rv]))(h:iY rv a)(hn:a.length=n)(n8:n<=8)(hR:rows.length<=1000){k l:Nat}(ba:BL k a)(bb:rH l rows)(hk:k+l<=10000000):
  ∃fv bs z,ow false H [Lv,.func 130 [] [.b9 x 0]]=some ([fv,.func 130 [] [.eX [rv] 0]],bs)/\aP E 129 [fv,.func 130 [] [.eX [rv] 0]]=some (.int .i64 z)/\((z= -1/\∀i,i<rows.length->eI a (row rows i) n=0)∨∃i,i<rows.length/\z=(i:Int)/\eI a (row rows i) n≠0):=by
 have hfr:∀m,Dv.fz H (m+2) rv=some (rv,[]):=by
  obtain⟨cs,rfl,-⟩:=h;exact fun m=>rfl
 have fp:=KS (m:=38) hx (by decide) (r:=[(rv,[])]) (by unfold dP;rw[hfr];rfl) rfl rfl;have ff:Dv.fz H 40 (.func 130 [] [.b9 x 0])=some (.func 130 [] [.eX [rv] 0],[x]):=by unfold Dv.fz;simp only[dP,fp];rfl
 have key:∀fv bl,Dv.fz H 40 Lv=some (fv,bl)->ow false H [Lv,.func 130 [] [.b9 x 0]]=some ([fv,.func 130 [] [.eX [rv] 0]],bl++[x]):=by
  intro fv bl e;rw[nQ];unfold bW;rw[if_neg (by simp[bE,aU])];simp only[dP,e,ff]
  simp
 by_cases h0:0<rows.length
 ·obtain⟨vs,bl,f1,f2,-⟩:=hL.fz h0 37;obtain⟨z,hz,hs⟩:=M7 (E:=E) h f2 hn n8 hR ba bb hk;exact⟨_,_,z,key _ _ f1,hz,hs⟩
 ·obtain⟨e1,e2⟩:=hL.resolve_right (fun h=>h0 h.1);subst e2;exact⟨_,_,-1,key _ _ rfl,PE h.pure,.inl ⟨rfl,fun i hi=>by omega⟩⟩
theorem xP{k:IntKind}{z:Int}:bR (.int k z)=true:=rfl
theorem add_zero{H0:Hp}{B n N:Nat}{Lv rv:AV}{a:List Rat}{rows:List (List Rat)}(Ab:B<H0.length)(hB:H0[B]?=some (.cells .live [Lv,.aH,.int .i64 (N:Int)]))(hL:nX H0 B n Lv rows)(hv:iY rv a)(ha:a.length=n)(hn:n<=8)(hR:rows.length<=1000){k l:Nat}(ba:BL k a)(bb:rH l rows)(hk:k+l<=500000)(hz:∀i,i<rows.length->eI a (row rows i) n=0)(hN:N<=1000):
  ∃r H',de E 99 [.b9 B 0,rv] H0=some (r,H')/\r=.tuple []/\pQ B H0 H'/\H'[B]?=some (.cells .live [Lv,.aH,.int .i64 ((N+1:Nat):Int)]):=by
 have c1:=fun l o=>lU (T:=H0) (l:=l) (o:=o) Ab
 have c3:=fun o=>kR (o:=o) hB (by decide)
 have s1:=fun xs l o=>sJ (T:=H0) (n:=1) (xs:=xs) (l:=l) (o:=o) Ab
 have s3:=fun xs o=>pn (n:=1) (xs:=xs) (o:=o) hB
 have p1:=fun x l=>rW (T:=H0) (l:=l) (x:=x) Ab
 obtain⟨ca,rfl,ra⟩:=id hv;have w1:aX .i64 ((N:Int)+1)=((N+1:Nat):Int):=by rw[wrap_i64 (by omega) (by omega)];omega
 obtain⟨H1,JO⟩:∃H1,H1=H0.set B (.cells .live [Lv,.aH,.int .i64 ((N+1:Nat):Int)]):=⟨_,rfl⟩;have DY:H1.length=H0.length:=by rw[JO,aO8]
 have hB1:H1[B]?=some (.cells .live [Lv,.aH,.int .i64 ((N+1:Nat):Int)]):=by rw[JO,aNl Ab]
 have Js:pQ B H0 H1:=by rw[JO];exact pQ.set _
 have c4:=fun l o=>lU (T:=H1) (l:=l) (o:=o) (show B<H1.length by omega)
 have c5:=fun o=>kR (o:=o) hB1 (by decide)
 have s4:=fun xs l o=>sJ (T:=H1) (n:=1) (xs:=xs) (l:=l) (o:=o) (show B<H1.length by omega)
 have s5:=fun xs o=>pn (n:=1) (xs:=xs) (o:=o) hB1
 have p4:=fun x l=>rW (T:=H1) (l:=l) (x:=x) (show B<H1.length by omega)
 obtain⟨fv,bs,z,gg,Dz,qo⟩:=Qg (E:=E) (H:=H1++[.cells .live [.aK ca a.length]]) (x:=H0.length) (hL.mono (Js.trans (pQ.app _))) (by rw[jU DY];rfl) hv ha hn hR ba bb (by omega);have hz1:z= -1:=by
  rcases qo with h|⟨i,h1,h2,h3⟩
  ·exact h.1
  ·exact absurd (hz i h1) h3
 subst hz1;refine gi2 (by rw[C.sj]) (by rw[C.fn];exact aiB) (by decide) ?_;intro ts hl g0 g1;unfold c99;simp only[↓aN,aO,↓aQ,aJ,dJ,↓reduceIte,aa,ah,ae,Tryz.f99,au,aB,hl,g0,g1,c1,c3,s1,s3,p1,w1,<-JO,c4,c5,gg,Dz,DY,xP,aMf];refine ew 1 ?_;simp only[↓aN,aO,aJ,dJ,↓reduceIte,aa,ah,ae,ao,ai,aB,hl,g0,s4,s5,p4,DY,aMf];refine⟨rfl,Js.trans ((pQ.set _).trans (pQ.app _)),?_⟩;rw[aNq (by rw[aO8];omega),aNl (by omega)]
theorem T9{H0:Hp}{B n N:Nat}{Lv rv:AV}{a:List Rat}{rows:List (List Rat)}(Ab:B<H0.length)(hB:H0[B]?=some (.cells .live [Lv,.aH,.int .i64 (N:Int)]))(hL:nX H0 B n Lv rows)(hv:iY rv a)(ha:a.length=n)(hn:n<=8)(hR:rows.length<=1000){k l:Nat}(ba:BL k a)(bb:rH l rows)(hk:k+l<=500000)(hz:¬∀i,i<rows.length->eI a (row rows i) n=0)(hN:N<=1000):
  ∃r H',de E 99 [.b9 B 0,rv] H0=some (r,H')/\r=.tuple []/\∃at' H1,at'<rows.length/\eI a (row rows at') n≠0/\pQ B H0 H1/\F6 H1 H' B n at' l ((N+1:Nat):Int) a rows:=by
 have c1:=fun l o=>lU (T:=H0) (l:=l) (o:=o) Ab
 have c3:=fun o=>kR (o:=o) hB (by decide)
 have s1:=fun xs l o=>sJ (T:=H0) (n:=1) (xs:=xs) (l:=l) (o:=o) Ab
 have s3:=fun xs o=>pn (n:=1) (xs:=xs) (o:=o) hB
 have p1:=fun x l=>rW (T:=H0) (l:=l) (x:=x) Ab
 obtain⟨ca,rfl,ra⟩:=id hv;have w1:aX .i64 ((N:Int)+1)=((N+1:Nat):Int):=by rw[wrap_i64 (by omega) (by omega)];omega
 obtain⟨H1,JO⟩:∃H1,H1=H0.set B (.cells .live [Lv,.aH,.int .i64 ((N+1:Nat):Int)]):=⟨_,rfl⟩;have DY:H1.length=H0.length:=by rw[JO,aO8]
 have hB1:H1[B]?=some (.cells .live [Lv,.aH,.int .i64 ((N+1:Nat):Int)]):=by rw[JO,aNl Ab]
 have Js:pQ B H0 H1:=by rw[JO];exact pQ.set _
 have c4:=fun l o=>lU (T:=H1) (l:=l) (o:=o) (show B<H1.length by omega)
 have c5:=fun o=>kR (o:=o) hB1 (by decide)
 have s4:=fun xs l o=>sJ (T:=H1) (n:=1) (xs:=xs) (l:=l) (o:=o) (show B<H1.length by omega)
 have s5:=fun xs o=>pn (n:=1) (xs:=xs) (o:=o) hB1
 have p4:=fun x l=>rW (T:=H1) (l:=l) (x:=x) (show B<H1.length by omega)
 obtain⟨fv,bs,z,gg,Dz,qo⟩:=Qg (E:=E) (H:=H1++[.cells .live [.aK ca a.length]]) (x:=H0.length) (hL.mono (Js.trans (pQ.app _))) (by rw[jU DY];rfl) hv ha hn hR ba bb (by omega);obtain⟨at',h1,rfl,h3⟩:=qo.resolve_left (fun h=>hz h.2);have Hx:(((at':Nat):Int)≥0)=True:=eq_true (by omega);have aFq:decide (((at':Nat):Int)≥0)=true:=b8 (by omega);obtain⟨u,H',qo,rfl,yp⟩:=RE (E:=E) (H0:=H1++[.cells .live [.aK ca a.length]]) (by rw[aMf];omega) (by rw[aNq (by omega)];exact hB1) (hL.mono (Js.trans (pQ.app _))) h1 hv ha hn hR ba bb hk h3 (N:=N) hN;refine gi2 (by rw[C.sj]) (by rw[C.fn];exact aiB) (by decide) ?_;intro ts hl g0 g1;unfold c99;simp only[↓aN,aO,↓aQ,aJ,dJ,↓reduceIte,aa,ah,ae,Tryz.f99,hl,g0,g1,c1,c3,s1,s3,p1,w1,<-JO,c4,c5,gg,Dz,DY,xP,Hx,qo];exact⟨rfl,at',_,h1,h3,Js.trans (pQ.app _),yp⟩
theorem Q9{H0:Hp}{B n N rb:Nat}{Lv rv P:AV}{ws:List AV}{pq:List Rat}{a:List Rat}{rows:List (List Rat)}(Ab:B<H0.length)(hB:H0[B]?=some (.cells .live [Lv,.aI rb 0 1 17 1,.int .i64 (N:Int)]))(hrB:rb≠B)(hrl:rb<H0.length)(Lf:H0[rb]?=some (.cells .live (P::ws)))(hw:Wd ws)(hP:iY P pq)(hpq:pq.length=n)(hL:nX H0 B n Lv rows)(hv:iY rv a)(ha:a.length=n)(hn:n<=8)(hR:rows.length<=1000){k l:Nat}(ba:BL k a)(bb:rH l rows)(hk:k+l<=500000)(hz:∀i,i<rows.length->eI a (row rows i) n=0)(hN:N<=1000){kp:Nat}(bp:BL kp pq)(hkp:k+kp<=10000000)(NH:0<(eI a pq n).num):
  ∃r H',de E 99 [.b9 B 0,rv] H0=some (r,H')/\r=.tuple []/\pQ B H0 H'/\H'[B]?=some (.cells .live [Lv,.aH,.int .i64 ((N+1:Nat):Int)]):=by
 have c1:=fun l o=>lU (T:=H0) (l:=l) (o:=o) Ab
 have c3:=fun o=>kR (o:=o) hB (by decide)
 have s1:=fun xs l o=>sJ (T:=H0) (n:=1) (xs:=xs) (l:=l) (o:=o) Ab
 have s3:=fun xs o=>pn (n:=1) (xs:=xs) (o:=o) hB
 have p1:=fun x l=>rW (T:=H0) (l:=l) (x:=x) Ab
 obtain⟨ca,rfl,ra⟩:=id hv;have w1:aX .i64 ((N:Int)+1)=((N+1:Nat):Int):=by rw[wrap_i64 (by omega) (by omega)];omega
 obtain⟨H1,JO⟩:∃H1,H1=H0.set B (.cells .live [Lv,.aI rb 0 1 17 1,.int .i64 ((N+1:Nat):Int)]):=⟨_,rfl⟩;have DY:H1.length=H0.length:=by rw[JO,aO8]
 have hB1:H1[B]?=some (.cells .live [Lv,.aI rb 0 1 17 1,.int .i64 ((N+1:Nat):Int)]):=by rw[JO,aNl Ab]
 have Js:pQ B H0 H1:=by rw[JO];exact pQ.set _
 have c4:=fun l o=>lU (T:=H1) (l:=l) (o:=o) (show B<H1.length by omega)
 have c5:=fun o=>kR (o:=o) hB1 (by decide)
 have s4:=fun xs l o=>sJ (T:=H1) (n:=1) (xs:=xs) (l:=l) (o:=o) (show B<H1.length by omega)
 have s5:=fun xs o=>pn (n:=1) (xs:=xs) (o:=o) hB1
 have p4:=fun x l=>rW (T:=H1) (l:=l) (x:=x) (show B<H1.length by omega)
 obtain⟨fv,bs,z,gg,Dz,qo⟩:=Qg (E:=E) (H:=H1++[.cells .live [.aK ca a.length]]) (x:=H0.length) (hL.mono (Js.trans (pQ.app _))) (by rw[jU DY];rfl) hv ha hn hR ba bb (by omega);have hz1:z= -1:=by
  rcases qo with h|⟨i,h1,h2,h3⟩
  ·exact h.1
  ·exact absurd (hz i h1) h3
 subst hz1;obtain⟨z0,z1,z2,z3,z4,z5,z6,z7,z8,z9,z10,W8,z12,z13,z14,z15,rfl⟩:=apy hw;have arW:H1[rb]?=some (.cells .live (P::[.int .u64 z0,.int .u64 z1,.int .u64 z2,.int .u64 z3,.int .u64 z4,.int .u64 z5,.int .u64 z6,.int .u64 z7,.int .u64 z8,.int .u64 z9,.int .u64 z10,.int .u64 W8,.int .u64 z12,.int .u64 z13,.int .u64 z14,.int .u64 z15])):=by rw[JO,aNh (fun h=>hrB h.symm)];exact Lf
 have c6:=fun l o=>lU (T:=H1) (l:=l) (o:=o) (show rb<H1.length by omega)
 have c7:=fun o=>kR (o:=o) arW (by decide)
 have a6:=fun n l o=>pC (T:=H1) (n:=n) (l:=l) (o:=o) (show rb<H1.length by omega)
 have a7:=fun n o=>pk (n:=n) (o:=o) arW (by decide)
 obtain⟨q,hq,iq⟩:=x6 (E:=E) hv hP (by omega) (by omega) ba bp hkp;rw[ha]at iq;obtain⟨zO,zK,zI,zQ,_,_,rfl,-,-,-,-⟩:=bX iq;have Q:=aW _ iq;have sq:=gz (E:=E) iq;have mE:decide (yX (eI a pq n).num>0)=true:=by unfold yX;rw[if_neg (by omega),if_neg (by omega)];rfl
 have U0:P.cells=[P]/\df P=true/\aU P=true/\bR P=false:=by obtain⟨cp,rfl,-⟩:=hP;exact⟨rfl,rfl,rfl,rfl⟩
 have aw6:∀aL,aT E aL 201 1 [(0,AV.agg [P,.int .u64 z0,.int .u64 z1,.int .u64 z2,.int .u64 z3,.int .u64 z4,.int .u64 z5,.int .u64 z6,.int .u64 z7,.int .u64 z8,.int .u64 z9,.int .u64 z10,.int .u64 W8,.int .u64 z12,.int .u64 z13,.int .u64 z14,.int .u64 z15])]=some (.aI aL 0 1 17 1,[(aL,.cells .live [P,.int .u64 z0,.int .u64 z1,.int .u64 z2,.int .u64 z3,.int .u64 z4,.int .u64 z5,.int .u64 z6,.int .u64 z7,.int .u64 z8,.int .u64 z9,.int .u64 z10,.int .u64 W8,.int .u64 z12,.int .u64 z13,.int .u64 z14,.int .u64 z15])]):=fun aL=>ee Gp rfl (by decide) (by decide) rfl
 have azx:∀aL,aT E aL 118 1 [(0,AV.agg [.bool zO,zK,.bool zI,zQ])]=some (.aI aL 0 1 4 1,[(aL,.cells .live [.bool zO,zK,.bool zI,zQ])]):=fun aL=>ee vj rfl (by decide) (by decide) rfl
 have awC:∀x y z aL,aV E (H1++[x,y,z,.cells .live [P,.int .u64 z0,.int .u64 z1,.int .u64 z2,.int .u64 z3,.int .u64 z4,.int .u64 z5,.int .u64 z6,.int .u64 z7,.int .u64 z8,.int .u64 z9,.int .u64 z10,.int .u64 W8,.int .u64 z12,.int .u64 z13,.int .u64 z14,.int .u64 z15]]) aL .append [201,201] [.aH,.aI (H0.length+3) 0 1 17 1]=some (.aI aL 0 1 17 1,[(aL,.cells .live [P,.int .u64 z0,.int .u64 z1,.int .u64 z2,.int .u64 z3,.int .u64 z4,.int .u64 z5,.int .u64 z6,.int .u64 z7,.int .u64 z8,.int .u64 z9,.int .u64 z10,.int .u64 W8,.int .u64 z12,.int .u64 z13,.int .u64 z14,.int .u64 z15])]):=fun x y z aL=>iQ Gp (by decide) (by rw[sb DY];rfl) (by decide) rfl (by simp only[aN1,U0.2.1,XZ,aPy,aPt]) (by decide)
 have avX:=fun(H:Hp) aL=>ag5 (H:=H) (aL:=aL) (Gp (E:=E))
 have ayc:∀x y z u v aL,aV E (H1++[x,y,z,u,v,.cells .live [.bool zO,zK,.bool zI,zQ]]) aL .append [118,118] [.aH,.aI (H0.length+5) 0 1 4 1]=some (.aI aL 0 1 4 1,[(aL,.cells .live [.bool zO,zK,.bool zI,zQ])]):=fun x y z u v aL=>iQ vj (by decide) (by rw[sb DY];rfl) (by decide) rfl (by simp only[aN1,Q,oK,aPy,aPt]) (by decide)
 refine gi2 (by rw[C.sj]) (by rw[C.fn];exact aiB) (by decide) ?_;intro ts hl g0 g1;unfold c99;simp only[↓aN,aO,↓aQ,aJ,dJ,↓reduceIte,aa,ah,ae,Tryz.f99,au,aB,hl,g0,g1,c1,c3,s1,s3,p1,w1,<-JO,c4,c5,gg,Dz,DY,xP,aMf];refine ew 2 ?_;simp only[↓aN,aO,↓aQ,aJ,dJ,↓reduceIte,aa,ah,ak,ae,an,ao,aq,aA,aB,aD,hl,a6,a7,DY,xP,Q,sq,mE,hq,U0,aw6,azx,awC,ayc,uj,aRd,aMf];refine ew 2 ?_;simp only[↓aN,aO,aJ,dJ,↓reduceIte,aa,ah,ak,ae,an,ao,aq,aB,hl,DY,U0,aRd,aMf];refine ew 1 ?_;simp only[↓aN,aO,aJ,dJ,↓reduceIte,aa,ah,ae,ao,ai,aA,aB,hl,g0,s4,s5,p4,DY,uj,avX,aMf];refine⟨rfl,Js.trans ((pQ.set _).trans (pQ.app _)),?_⟩;rw[aNq (by rw[aO8];omega),aNl (by omega)]
def DQ(n j:Nat):List Rat:=(List.replicate n 0).set j 1
def mG(n:Nat):List (List Rat):=(List.range n).map (DQ n)
theorem uR{n j:Nat}(h:j<n):row (mG n) j=DQ n j:=by unfold row mG;rw[aQP,aLI,List.getElem?_range h];rfl
theorem B9{n j:Nat}:(DQ n j).length=n:=by unfold DQ;rw[aO8,aT1]
def HI(H:Hp)(B n:Nat)(v:AV)(i:Nat):Prop:=(i=0/\v=.aH)∨(0<i/\∃b hs,v=.aI b 0 i 1 i/\B<b/\b<H.length/\H[b]?=some (.cells .live hs)/\hs.length=i/\∀j,j<i->∃c cs,hs.getD j aZ=.aI c 0 n 4 n/\c≠b/\B<c/\c<H.length/\H[c]?=some (.cells .live cs)/\je cs (DQ n j))
theorem HI.lin{H:Hp}{B n:Nat}{v:AV}(h:HI H B n v n):nX H B n v (mG n):=by
 have hl:(mG n).length=n:=by unfold mG;rw[aTV,aVa]
 rcases h with⟨h0,e⟩|⟨h0,b,hs,e,hB,hb,h1,h2,h3⟩
 ·exact .inl ⟨aTY (by omega),e⟩
 ·refine .inr ⟨by omega,b,.live,hs,by rw[hl];exact e,by omega,hb,h1,by decide,by omega,fun j hj=>?_⟩;rw[hl]at hj;obtain⟨c,cs,f1,f2,f3,f4,f5,f6⟩:=h3 j hj;rw[uR hj];exact⟨.inr ⟨c,.live,cs,by rw[B9];exact f1,by omega,f4,f5,by decide,f6⟩,B9⟩
theorem HI.step{H H2:Hp}{B n i k r:Nat}{v:AV}{hs cs:List AV}(h:HI H B n v i)(sT:wW 1 0 v H i hs)(hi:hs.length=i)(hB:B<H.length)(hr:H.length<=r)(hk:r<k)(Lk:k<H2.length)(h1:H2[k]?=some (.cells .live (hs++[.aI r 0 n 4 n])))(h2:H2[r]?=some (.cells .live cs))(hc:je cs (DQ n i))(hp:∀q,q<H.length->q≠B->(∀m,v≠ .aI q 0 m 1 m)->H2[q]?=H[q]?):HI H2 B n (.aI k 0 (i+1) 1 (i+1)) (i+1):=by
 refine .inr ⟨by omega,k,_,rfl,by omega,Lk,h1,by rw[aMf,hi];rfl,fun j hj=>?_⟩;by_cases e:j=i
 ·subst e;exact⟨r,cs,lS hi.symm,by omega,by omega,by omega,h2,hc⟩
 ·rcases h with⟨h0,-⟩|⟨h0,b,Di,e1,hb,Ao,h3,h4,h5⟩
  ·omega
  ·have hss:hs=Di:=by
    rcases sT with⟨h8,-,-⟩|⟨-,b',-,-,e3,h9⟩
    ·omega
    ·rw[e1]at e3;simp only[AV.aI.injEq,and_true]at e3;obtain rfl:=e3;rw[h3]at h9;simpa using h9.symm
   subst hss;obtain⟨c,vK,f1,f2,f3,f4,f5,f6⟩:=h5 j (by omega);refine⟨c,vK,by rw[me (by omega)];exact f1,by omega,f3,by omega,?_,f6⟩;rw[hp c f4 (by omega)]
   ·exact f5
   ·intro m e3;rw[e1]at e3;simp only[AV.aI.injEq]at e3;exact f2 e3.1.symm
theorem HI.sl{H:Hp}{B n i:Nat}{v:AV}(h:HI H B n v i):∃hs,wW 1 0 v H i hs/\hs.length=i:=by
 rcases h with⟨rfl,rfl⟩|⟨h0,b,hs,e,-,h1,h2,h3,-⟩
 ·exact⟨[],.inl ⟨rfl,rfl,rfl⟩,rfl⟩
 ·exact⟨hs,.inr ⟨h0,b,aVe _,h1,e,h2⟩,h3⟩
theorem HI.one{H:Hp}{B n i:Nat}{v:AV}(h:HI H B n v i):v.cells=[v]/\df v=true:=by
 rcases h with⟨rfl,rfl⟩|⟨h0,b,hs,rfl,-⟩<;>exact⟨rfl,rfl⟩
theorem PM{H0:Hp}{n:Nat}(hn:n<=8)(h1n:0<n):
  ∃r H',de E 98 [.int .i64 (n:Int)] H0=some (r,H')/\r=.b9 H0.length 0/\H0.length<H'.length/\(∀k,k<H0.length->H'[k]?=H0[k]?)/\∃Lv,H'[H0.length]?=some (.cells .live [Lv,.aH,.int .i64 0])/\nX H' H0.length n Lv (mG n):=by
 obtain⟨o,ho,io⟩:=kF (E:=E) (n:=1) (by omega) (by omega);obtain⟨on0,om0,on1,om1,_,_,rfl,-,-,-,-⟩:=bX io;have O:=aW _ io;have Hf:=fun aL=>zM (E:=E) (aL:=aL) (m:=n) (k:=.i64) (k':=.i64) (by omega)
 refine RL (by rw[C.sj]) (by rw[C.fn];exact aAf) (by decide) ?_;intro ts hl g0;unfold c98;simp only[↓aN,aO,aJ,dJ,aa,ae,Tryz.f98,hl,g0,agq];refine ft (fun k_ ts H=>∃i Lv HC,k_=n-i/\ts.length=30/\gt ts 0=.int .i64 (n:Int)/\gt ts 3=.b9 H0.length 0/\gt ts 8=.int .i64 (n:Int)/\gt ts 9=.int .i64 (i:Int)/\H=HC/\(i<=n)/\(H0.length<HC.length)/\(HC[H0.length]?=some (.cells .live [Lv,.aH,.int .i64 0]))/\(∀k,k<H0.length->HC[k]?=H0[k]?)/\(HI HC H0.length n Lv i)) (n) ?_ ?_
 rotate_left
 ·refine⟨0,.aH,H0++[.cells .live [.aH,.aH,.int .i64 0]],(by first|omega|rfl|(simp;done)),(by simp only[cP,hl]),?_⟩;simp only[cR,hl,aa,ae,g0]
  iterate 5 refine⟨by first|trivial|rfl|(congr 1;omega)|(simp;done)|(simp;omega),?_⟩
  refine⟨?_,?_,?_,?_,?_⟩
  ·omega
  ·rw[aMf];exact Nat.lt_succ_self _
  ·rw[jU rfl];rfl
  ·intro k hk;exact aNq hk
  ·exact .inl ⟨rfl,rfl⟩
 clear hl g0 ts;rintro k_ ts H ⟨i,Lv,HC,rfl,hl,g0,g3,g8,g9,rfl,hi,Ab,hB,hK,hL⟩;refine VS ?_;have c1:=fun l o=>lU (T:=H) (l:=l) (o:=o) Ab
 have c3:=fun o=>kR (o:=o) hB (by decide)
 by_cases hd:i<n
 ·have dc:decide ((i:Int)<(n:Int))=true:=b8 (by omega);have mM:((i:Int)<(n:Int))=True:=eq_true (by omega);have w1:aX .i64 ((i:Int)+1)=((i+1:Nat):Int):=by rw[wrap_i64 (by omega) (by omega)];omega
  have hz:=je.E9 n;have hzl:(iE [.bool false,.aH,.bool false,.aH] n).length=n*4:=by rw[hz.len,aT1]
  have oc:=hz.set (i:=i) (by rw[aT1];exact hd) io;have UM:decide (i*4+4<=(iE [.bool false,.aH,.bool false,.aH] n).length)=true:=b8 (by omega);have hl4:(aUr (i*4) (iE [.bool false,.aH,.bool false,.aH] n)++AV.bool on0::om0::AV.bool on1::om1::List.drop (i*4+4) (iE [.bool false,.aH,.bool false,.aH] n))=cH (iE [.bool false,.aH,.bool false,.aH] n) (i*4) [.bool on0,om0,.bool on1,om1]:=by unfold cH;rw[aRd];rfl
  obtain⟨cs,sd⟩:∃cs,cs=cH (iE [.bool false,.aH,.bool false,.aH] n) (i*4) [.bool on0,om0,.bool on1,om1]:=⟨_,rfl⟩;rw[<-sd]at hl4 oc;obtain⟨hs,sT,hhl⟩:=hL.sl;have hvo:=hL.one;have km:∀aL,aT E aL 65 1 [(0,.aI H.length 0 n 4 n)]=some (.aI aL 0 1 1 1,[(aL,.cells .live [.aI H.length 0 n 4 n])]):=fun aL=>ee GG rfl (by decide) (by decide) rfl
  obtain⟨bU,H2,iR,Ac,t1,t2,t3⟩:=lQ (E:=E) (H:=H++[.cells .live cs]) (x:=[.aI H.length 0 n 4 n]) GG (by decide) (qz (l:=[.cells .live cs]) sT) (by omega) rfl rfl (by unfold gO;omega) (by omega);have JC:(H++[cz.cells gu.live cs]).length=H.length+1:=by rw[aMf];rfl
  rw[JC]at iR t1 t2 t3;simp only[aRd,aPr,List.nil_append,aMf,aMm,List.length_nil,Nat.zero_add,ah]at iR Ac;have hvB:∀m,Lv≠ .aI H0.length 0 m 1 m:=by
   intro m e;rcases hL with⟨-,e2⟩|⟨-,b,Di,e2,hb,-⟩
   ·rw[e2]at e;simp at e
   ·rw[e2]at e;simp only[AV.aI.injEq]at e;omega
  have hB2:H2[H0.length]?=some (.cells .live [Lv,.aH,.int .i64 0]):=by rw[t3 _ (by omega) hvB,aNq Ab];exact hB
  have c2:=fun o=>kR (o:=o) hB2 (by decide)
  have s2:=fun xs o=>pn (n:=1) (xs:=xs) (o:=o) hB2
  have p2:∀x,eE H2 H0.length x=H2.set H0.length x:=fun x=>kD (by omega)
  simp only[↓aN,aO,↓aQ,aJ,dJ,↓reduceIte,aa,ah,ae,ai,hl,g0,g3,g8,g9,mM,w1,ho,O,Hf,c1,c3,UM,hl4,km,iR,Ac,s2,p2,aKU,aRd,aMf];have hr:H2[H.length]?=some (.cells .live cs):=by
   rw[t3 _ (by omega) ?_,jU rfl]
   ·rfl
   ·intro m e;rcases sT with⟨-,-,e2⟩|⟨-,b,-,hb,e2,-⟩
    ·rw[e2]at e;simp at e
    ·rw[e2]at e;simp only[AV.aI.injEq]at e;omega
  refine dG ?_;refine⟨_,?_,i+1,(.aI (H.length+2) 0 (i+1) 1 (i+1)),(H2.set H0.length (.cells .live [.aI (H.length+2) 0 (i+1) 1 (i+1),.aH,.int .i64 0])),rfl,(by simp only[cP,hl]),?_⟩
  ·first|omega|(simp;omega)
  simp only[cR,hl,aa,ae,g0,g3,g8]
  iterate 5 refine⟨by first|trivial|rfl|(congr 1;omega)|(simp;done)|(simp;omega),?_⟩
  refine⟨?_,?_,?_,?_,?_⟩
  ·omega
  ·omega
  ·rw[aNl (by omega)]
  ·intro k hk;rw[aNh (by omega),t3 k (by omega) ?_,aNq (by omega)]
   ·exact hK k hk
   ·intro m e;rcases hL with⟨-,e2⟩|⟨-,b,Di,e2,hb,-⟩
    ·rw[e2]at e;simp at e
    ·rw[e2]at e;simp only[AV.aI.injEq]at e;omega
  ·refine hL.step sT hhl Ab (aKR _) (show H.length<H.length+2 by omega) (by rw[aO8];omega) (by rw[aNh (by omega)];exact t1) (by rw[aNh (by omega)];exact hr) oc (fun q hq hqB Tp=>?_);rw[aNh (fun h=>hqB h.symm),t3 q (by omega) Tp,aNq hq]
 ·have dc:decide ((i:Int)<(n:Int))=false:=cg (by omega);obtain rfl:i=n:=by omega
  simp only[↓aN,aO,↓reduceIte,aa,ae,hl,g3,g8,g9,dc];exact⟨Ab,hK,Lv,hB,hL.lin⟩
theorem K2{f n:Nat}{l:List AV}{H H':Hp}{r:AV}(h:ue E0 (dK E0 n) f l H=some (r,H')):de E f l H=some (r,H'):=by rw[nj C];exact CZ ⟨n,h⟩
theorem YH{H:Hp}:de E 141 [.aH,.func 142 [] []] H=some (.tuple [],H):=K2 (n:=60) (by kernel_rfl)
theorem OR:aP E 139 [.aH]=some (.tuple [.aH,.aH,.int .i64 0]):=kr (n:=60) (by kernel_rfl) (by kernel_rfl)
theorem Z0{aL:Nat}:Aw E aL 219 none=some (.jt aL,[(aL,.map .live [] [])]):=by
 rw[nj C]
 kernel_rfl
theorem nX.fzm{H H2:Hp}{B n:Nat}{v:AV}{rows:List (List Rat)}(h:nX H B n v rows)(hl:pQ B H H2)(h0:0<rows.length)(m:Nat):∃vs bs,Dv.fz H2 (m+3) v=some (.aK vs rows.length,bs)/\oq vs rows n/\∀b∈bs,B<b/\b<H.length:=by
 rcases h with⟨e,-⟩|⟨-,b,st,hs,e1,hB,iH,h1,h2,h3,h4⟩
 ·rw[e]at h0;exact absurd h0 (by simp)
 ·have key:∀(l:List AV),(∀x∈l,∃q,qn H B x q)->∃r,dP (Dv.fz H2 (m+2)) l=some r/\r.length=l.length/\(∀j,j<l.length->∃q,qn H B (l.getD j aZ) q/\Dv.fz H2 (m+2) (l.getD j aZ)=some ((r.map (·.1)).getD j aZ,((r.map (·.2)).getD j [])))/\∀b∈r.flatMap (·.2),B<b/\b<H.length:=by
   intro l;induction l with
   |nil=>intro _;exact⟨[],rfl,rfl,by simp,by simp⟩
   |cons x l ih=>
    intro hx;obtain⟨r,Cg,G5,PI,hr4⟩:=ih fun y hy=>hx y (by simp[hy])
    obtain⟨q,hq⟩:=hx x (by simp);obtain⟨cs,bs,f1,f2,f3⟩:=hq.fzm hl m;refine⟨(.aK cs q.length,bs)::r,?_,by simp[G5],?_,?_⟩
    ·unfold dP;rw[f1,Cg]
    ·intro j hj;cases j with
     |zero=>exact⟨q,hq,f1⟩
     |succ j=>
      obtain⟨q',a1,a2⟩:=PI j (by simpa using hj);exact⟨q',by simpa using a1,by simpa using a2⟩
    ·intro b hb;rw[List.flatMap_cons,aLV]at hb;rcases hb with hb|hb
     ·exact f3 b hb
     ·exact hr4 b hb
  obtain⟨r,Cg,G5,PI,hr4⟩:=key hs (by
   intro x hx;obtain⟨j,hj,e⟩:=aTU hx
   have:=(h4 j (by omega)).1
   rw[aQP,aL5 hj,aMp,e]at this;exact⟨_,this⟩)
  obtain⟨st',d',e'⟩:=hl.2 b st hs (by omega) h1 h2;have h6:=oe (n:=m+2) (off:=0) (len:=rows.length) (esz:=1) (k:=rows.length) e' d' (by omega) (by rw[List.drop_zero,Nat.mul_one,<-h3,aQV];exact Cg);subst e1;refine⟨_,_,h6,⟨by rw[aTV,G5,h3],fun j hj=>?_⟩,?_⟩
  ·obtain⟨q,a1,a2⟩:=PI j (by omega);obtain⟨cs,bs,f1,f2,f3⟩:=(h4 j hj).1.fzm hl m;rw[f1]at a2;simp only[aKV.injEq,Prod.mk.injEq]at a2;rw[<-a2.1];exact⟨⟨cs,rfl,f2⟩,(h4 j hj).2⟩
  ·intro b hb;simp only[aMc]at hb;rcases hb with rfl|hb
   ·exact⟨hB,iH⟩
   ·exact hr4 b hb
def dO(q:List Rat):AV:=.aK (q.map fun x=>.str (dh x)) q.length
theorem TR{H0:Hp}{B n K:Nat}{Zx:Int}{Lv:AV}{rows:List (List Rat)}(Ab:B<H0.length)(hB:H0[B]?=some (.cells .live [Lv,.aH,.int .i64 Zx]))(hL:nX H0 B n Lv rows)(h0:0<n)(hn:n<=8)(hR:rows.length<=256)(hK:0<K)(bb:rH K rows)(zg:5^n*K<=10000000000):
  ∃r H',de E 101 [.b9 B 0,.int .i64 (n:Int)] H0=some (r,H')/\(∀k,k<B->H'[k]?=H0[k]?)/\∃(v:AV) (G:List (List Rat)) (P:Nat->Nat),r=.agg [.int .i64 (n:Int),v,.aH]/\wW 1 H0.length v H' G.length (G.map dO)/\nJ G n/\kY.rN n G.length (fun i=>iN G i) P (kY.gy (kY.SR rows.length fun i=>iN rows i)):=by
 have c1:=fun l o=>lU (T:=H0) (l:=l) (o:=o) Ab
 have c3:=fun o=>kR (o:=o) hB (by decide)
 have Nn:∃(fv:AV) (bs:List Nat) (o p:AV) (G:List (List Rat)) (P:Nat->Nat),ow (aU Lv) (H0++[cz.cells gu.live [AV.int IntKind.i64 0,AV.aH,AV.aH],cz.cells gu.live [AV.int IntKind.i64 (n:Int),AV.aH,AV.aH]]) [Lv]=some ([fv],bs)/\(∀b∈bs,B<b/\b<H0.length)/\aP E 139 [fv]=some (.tuple [o,p,.int .i64 0])/\k9 o=some (G.length:Int)/\k9 p=some (G.length:Int)/\aU o=true/\aU p=true/\(∀i,i<G.length->∃vs:List AV,o=.aK vs G.length/\oq vs G n)/\rH (5^n*K) G/\G.length<=256/\nJ G n/\kY.rN n G.length (fun i=>iN G i) P (kY.gy (kY.SR rows.length fun i=>iN rows i)):=by
  by_cases I9:0<rows.length
  ·obtain⟨vs,bs,f1,f2,f3⟩:=hL.fzm (H2:=H0++[cz.cells gu.live [AV.int IntKind.i64 0,AV.aH,AV.aH],cz.cells gu.live [AV.int IntKind.i64 (n:Int),AV.aH,AV.aH]]) (pQ.app _) I9 37;obtain⟨o,p,Ln,⟨k,rw',gG,hS,hk,N5,hlen,azs,hbm,tE,hp,ho⟩⟩:=LD (E:=E) f2 bb hK h0 I9 hR (by omega) zg;have hw0:nJ rows n:=fun i hi=>(f2.2 i hi).2
   have hE:=Zb hS hw0 hk N5;have R8:(rw'.take gG.length).length=gG.length:=by rw[aMo];omega
   have hrt:∀i,i<gG.length->row (rw'.take gG.length) i=row rw' i:=fun i hi=>by
    unfold row;rw[aQP,List.getElem?_take,if_pos hi,<-aQP]
   refine⟨_,bs,o,p,rw'.take gG.length,fun i=>gG.getD i 0,?_,f3,Ln,?_,?_,?_,?_,?_,?_,by omega,?_,?_⟩
   ·obtain⟨-,b,st,hs,e1,-⟩:=hL.resolve_left (fun h=>by rw[h.1]at I9;exact absurd I9 (by simp));subst e1;show ow false _ _=_
    rw[nQ];unfold bW;rw[if_neg (by simp[bE,aU])];simp only[dP,f1]
    simp
   ·rw[R8];rcases ho with⟨h1,rfl⟩|⟨h1,Hh,rfl,-⟩
    ·rw[h1];rfl
    ·rfl
   ·rw[R8];rcases hp with⟨rfl,rfl⟩|rfl<;>rfl
   ·rcases ho with⟨h1,rfl⟩|⟨h1,Hh,rfl,-⟩<;>rfl
   ·rcases hp with⟨rfl,rfl⟩|rfl<;>rfl
   ·intro i hi;rcases ho with⟨h1,rfl⟩|⟨h1,Hh,rfl,hm⟩
    ·omega
    ·exact⟨Hh,by rw[R8],hm⟩
   ·intro i hi;rw[R8]at hi;rw[hrt i hi];exact hbm i (by omega)
   ·intro i hi;rw[R8]at hi;rw[hrt i hi];exact azs i (by omega)
   ·rw[R8];have Gy:∀i,i<gG.length->∀c,iN (rw'.take gG.length) i c=iN rw' i c:=fun i hi c=>by unfold iN;rw[hrt i hi]
    exact⟨hE.lt,hE.mono,fun i j hi hj=>by rw[Gy i hi];exact hE.one i j hi hj,fun i c hi hc=>by rw[Gy i hi];exact hE.low i c hi hc,fun i hi=>kY.gy.ext (hE.mem i hi) (fun c=>Gy i hi c),hE.gen⟩
  ·obtain⟨e1,e2⟩:=hL.resolve_right (fun h=>I9 h.1);subst e1 e2;refine⟨.aH,[],.aH,.aH,[],fun _=>0,rfl,by simp,OR,rfl,rfl,rfl,rfl,fun i hi=>absurd hi (by simp),fun i hi=>absurd hi (by simp),by simp,fun i hi=>absurd hi (by simp),?_⟩;refine⟨fun i hi=>absurd hi (by simp),fun i j _ hj=>absurd hj (by simp),fun i j hi _=>absurd hi (by simp),fun i c hi _=>absurd hi (by simp),fun i hi=>absurd hi (by simp),fun x hx _ c=>?_⟩;obtain⟨q,hq⟩:=kY.Kt hx;rw[hq c];rfl
 obtain⟨fv,bs,o,p,G,P,gg,km,Ln,kO,By,po,pp,hoG,bG,R8,Ud,aib⟩:=Nn;obtain⟨HA,hma,hHA,hML,hBA,-⟩:=EC (bR (AV.tuple [o,p,.int .i64 0])) km;rw[hB]at hBA;have c1A:=fun l o=>lU (T:=HA) (l:=l) (o:=o) (show B<HA.length by omega)
 have c3A:=fun o=>kR (o:=o) hBA (by decide)
 refine gi2 (by rw[C.sj]) (by rw[C.fn];exact ast) (by decide) ?_;intro ts hl g0 g1;unfold arN;simp only[↓aN,aO,↓aQ,aJ,dJ,↓reduceIte,aa,ah,ae,Tryz.f101,ai,hl,g0,g1,c1,c3,gg,Ln,hma,kO,aRd,aMf];have hLB:H0.length<(HA++[cz.cells gu.live [AV.int IntKind.i64 0,AV.aH,AV.aH],cz.cells gu.live [AV.int IntKind.i64 (n:Int),AV.aH,AV.aH]]).length:=by
  rw[aMf,hML];simp
 refine ft (fun k_ ts H=>∃i v HC,k_=G.length-i/\ts.length=109/\gt ts 0=.b9 B 0/\gt ts 4=.b9 H0.length 0/\gt ts 5=.b9 (H0.length+1) 0/\gt ts 7=p/\gt ts 31=o/\gt ts 32=.int .i64 (G.length:Int)/\gt ts 33=.int .i64 (i:Int)/\H=HC/\(i<=G.length)/\(H0.length+2<=HC.length)/\(∀k,k<B->HC[k]?=H0[k]?)/\(HC[B]?=some (.cells .live [Lv,.aH,.int .i64 Zx]))/\(HC[H0.length]?=some (.cells .live [.int .i64 0,.aH,.aH]))/\(HC[H0.length+1]?=some (.cells .live [.int .i64 (n:Int),v,.aH]))/\(wW 1 (H0.length+2) v HC i ((G.take i).map dO))) (G.length) ?_ ?_
 rotate_left
 ·refine⟨0,.aH,HA++[cz.cells gu.live [AV.int IntKind.i64 0,AV.aH,AV.aH],cz.cells gu.live [AV.int IntKind.i64 (n:Int),AV.aH,AV.aH]],(by first|omega|rfl|(simp;done)),(by simp only[cP,hl]),?_⟩;simp only[cR,hl,aa,ae,g0]
  iterate 8 refine⟨by first|trivial|rfl|(congr 1;omega)|(simp;done)|(simp;omega),?_⟩
  refine⟨?_,?_,?_,?_,?_,?_,?_⟩
  ·omega
  ·rw[aMf,hML];simp
  ·intro k hk;rw[aNq (by omega)];exact hHA.1.2 k hk (by omega)
  ·rw[aNq (by omega)];exact hBA
  ·rw[jU hML];rfl
  ·rw[sb hML];rfl
  ·exact .inl ⟨rfl,rfl,rfl⟩
 clear hl g0 g1 ts;rintro k_ ts H ⟨i,v,HC,rfl,hl,g0,g4,g5,g7,g31,g32,g33,rfl,hi,hCl,hK,hCB,Td,OH,pV⟩;refine VS ?_;have c2:=fun l o=>lU (T:=H) (l:=l) (o:=o) (show H0.length+1<H.length by omega)
 have c4:=fun o=>kR (o:=o) OH (by decide)
 have s2:=fun xs l o=>sJ (T:=H) (n:=1) (xs:=xs) (l:=l) (o:=o) (show H0.length+1<H.length by omega)
 have s4:=fun xs o=>pn (n:=1) (xs:=xs) (o:=o) OH
 have p2:=fun x l=>rW (T:=H) (l:=l) (x:=x) (show H0.length+1<H.length by omega)
 have ZG:∀j,(H0.length+1==H.length+j)=false:=fun j=>beq_eq_false_iff_ne.2 (by omega)
 have anD:(H0.length+1==H.length)=false:=beq_eq_false_iff_ne.2 (by omega);by_cases hd:i<G.length
 ·have dc:decide ((i:Int)<(G.length:Int))=true:=b8 (by omega);have mM:((i:Int)<(G.length:Int))=True:=eq_true (by omega);have w1:aX .i64 ((i:Int)+1)=((i+1:Nat):Int):=by rw[wrap_i64 (by omega) (by omega)];omega
  obtain⟨vs,rfl,hm⟩:=hoG i hd;obtain⟨xx,abF⟩:=hm.2 i hd;have p1:=fX (vs:=vs) (i:=i) (by have:=hm.1;omega);have zT:=A7 (E:=E) xx (bG i hd) (by omega) (by omega);have pri:=xx.pure;have Ok:(G.take (i+1)).map dO=(G.take i).map dO++[dO (row G i)]:=by rw[List.take_add_one,List.map_append];congr 1;unfold row;rw[aL5 hd,aQP,aL5 hd];rfl
  have htl:((G.take i).map dO).length=i:=by rw[aTV,aMo];omega
  obtain⟨tx,htx⟩:∃tx,tx=dO (row G i):=⟨_,rfl⟩;have afM:aP E 82 [vs.getD i aZ]=some tx:=by rw[htx];exact zT
  have hTX:tx.cells=[tx]/\df tx=true/\bR tx=false:=by rw[htx];exact⟨rfl,rfl,rfl⟩
  rw[<-htx]at Ok;have Hs:∀aL,aT E aL 24 1 [(0,tx)]=some (.aI aL 0 1 1 1,[(aL,.cells .live [tx])]):=fun aL=>by
   have:=ee (E:=E) (aL:=aL) (v:=tx) Rx rfl (by decide) (by decide) (by rw[hTX.1];rfl)
   rw[hTX.1]at this;exact this
  rcases id pV with⟨Ue,he,rfl⟩|⟨h0i,b,vO,Ao,rfl,Lg⟩
  ·have Kx:∀aL,aV E (H++[.cells .live [tx],eP]) aL .append [24,24] [.aH,.aI H.length 0 1 1 1]=some (.aI aL 0 1 1 1,[(aL,.cells .live [tx])]):=fun aL=>iQ Rx (by decide) (by rw[jU rfl];rfl) (by decide) rfl (by simp only[aN1,hTX.2.1,aPy,aPt]) (by decide)
   simp only[↓aN,aO,↓aQ,aJ,dJ,↓reduceIte,aa,ah,ae,ai,hl,g5,g31,g32,g33,mM,w1,p1,afM,hTX,pri,Hs,Kx,c2,c4,tG,s2,s4,p2,anD];refine dG ?_;refine⟨_,?_,i+1,(.aI (H.length+1) 0 1 1 1),(H.set (H0.length+1) (.cells .live [.int .i64 (n:Int),.aI (H.length+1) 0 1 1 1,.aH])++[cz.cells gu.live [tx],cz.cells gu.live [tx]]),rfl,(by simp only[cP,hl]),?_⟩
   ·first|omega|(simp;omega)
   simp only[cR,hl,aa,ae,g0,g4,g5,g7,g31,g32]
   iterate 8 refine⟨by first|trivial|rfl|(congr 1;omega)|(simp;done)|(simp;omega),?_⟩
   refine⟨?_,?_,?_,?_,?_,?_,?_⟩
   ·omega
   ·rw[aMf,aO8];omega
   ·intro k hk;rw[aNq (by rw[aO8];omega),aNh (by omega)];exact hK k hk
   ·rw[aNq (by rw[aO8];omega),aNh (by omega)];exact hCB
   ·rw[aNq (by rw[aO8];omega),aNh (by omega)];exact Td
   ·rw[aNq (by rw[aO8];omega),aNl (by omega)]
   ·rw[Ok,he,Ue];exact .inr ⟨by omega,H.length+1,by omega,by rw[aMf,aO8];simp,rfl,by rw[sb (by rw[aO8])];rfl⟩
  ·have Kx:∀aL,aV E (H++[.cells .live [tx],eP]) aL .append [24,24] [.aI b 0 i 1 i,.aI H.length 0 1 1 1]=some (.aI aL 0 (i+1) 1 (i+1),[(b,.cells .dead []),(aL,.cells .live ((G.take i).map dO++[tx]))]):=fun aL=>np Rx (by decide) h0i (by rw[aNq Ao];exact Lg) (by omega) (st:=.live) (by rw[jU rfl];rfl) (by decide) rfl (by simp only[aN1,hTX.2.1,aPy,aPt]) (by unfold gO;omega) (by omega)
   obtain⟨HD,hHD⟩:∃HD,HD=H.set b (.cells .dead []):=⟨_,rfl⟩;have pD:=fun l=>rW (T:=H) (l:=l) (x:=.cells .dead []) Ao
   have hlD:HD.length=H.length:=by rw[hHD,aO8]
   have hD1:HD[H0.length+1]?=some (.cells .live [.int .i64 (n:Int),.aI b 0 i 1 i,.aH]):=by rw[hHD,aNh (by omega)];exact OH
   have s6:=fun xs l o=>sJ (T:=HD) (n:=1) (xs:=xs) (l:=l) (o:=o) (show H0.length+1<HD.length by omega)
   have s7:=fun xs o=>pn (n:=1) (xs:=xs) (o:=o) hD1
   have p6:=fun x l=>rW (T:=HD) (l:=l) (x:=x) (show H0.length+1<HD.length by omega)
   simp only[↓aN,aO,↓aQ,aJ,dJ,↓reduceIte,aa,ah,ae,ai,hl,g5,g31,g32,g33,mM,w1,p1,afM,hTX,pri,Hs,Kx,c2,c4,tG,pD,<-hHD,hlD,s6,s7,p6,anD,kI];refine dG ?_;refine⟨_,?_,i+1,(.aI (H.length+1) 0 (i+1) 1 (i+1)),(HD.set (H0.length+1) (.cells .live [.int .i64 (n:Int),.aI (H.length+1) 0 (i+1) 1 (i+1),.aH])++[cz.cells gu.live [tx],cz.cells gu.live ((G.take i).map dO++[tx])]),rfl,(by simp only[cP,hl]),?_⟩
   ·first|omega|(simp;omega)
   simp only[cR,hl,aa,ae,g0,g4,g5,g7,g31,g32]
   iterate 8 refine⟨by first|trivial|rfl|(congr 1;omega)|(simp;done)|(simp;omega),?_⟩
   refine⟨?_,?_,?_,?_,?_,?_,?_⟩
   ·omega
   ·rw[aMf,aO8];omega
   ·intro k hk;rw[aNq (by rw[aO8];omega),aNh (by omega),hHD,aNh (by omega)];exact hK k hk
   ·rw[aNq (by rw[aO8];omega),aNh (by omega),hHD,aNh (by omega)];exact hCB
   ·rw[aNq (by rw[aO8];omega),aNh (by omega),hHD,aNh (by omega)];exact Td
   ·rw[aNq (by rw[aO8];omega),aNl (by omega)]
   ·rw[Ok];exact .inr ⟨by omega,H.length+1,by omega,by rw[aMf,aO8,hlD];simp,rfl,by rw[sb (by rw[aO8];exact hlD)];rfl⟩
 ·have dc:decide ((i:Int)<(G.length:Int))=false:=cg (by omega);obtain rfl:i=G.length:=by omega
  rw[aQV]at pV;have cBl:=fun l o=>lU (T:=H) (l:=l) (o:=o) (show B<H.length by omega)
  have cB4:=fun o=>kR (o:=o) hCB (by decide)
  simp only[↓aN,aO,aJ,dJ,↓reduceIte,aa,ae,hl,g0,g32,g33,dc,cBl,cB4,Z0,aMf];refine ew 1 ?_;simp only[↓aN,aO,↓aQ,aJ,↓reduceIte,aa,ae,ao,hl,YH];have a2:=fun m l o=>pC (T:=H) (n:=m) (l:=l) (o:=o) (show H0.length+1<H.length by omega)
  have a4:=fun m o=>pk (n:=m) (o:=o) OH (by decide)
  have sL:=fun m xs l o=>sJ (T:=H) (n:=m) (xs:=xs) (l:=l) (o:=o) (show H0.length<H.length by omega)
  have sL4:=fun m xs o=>pn (n:=m) (xs:=xs) (o:=o) Td
  have pL:=fun x l=>rW (T:=H) (l:=l) (x:=x) (show H0.length<H.length by omega)
  have hvo:v.cells=[v]/\df v=true:=by rcases pV with⟨-,-,rfl⟩|⟨-,b',-,-,rfl,-⟩<;>exact⟨rfl,rfl⟩
  obtain⟨H7,hH7⟩:∃H7,H7=H.set H0.length (.cells .live [.int .i64 (n:Int),v,.aH]):=⟨_,rfl⟩;have hl7:H7.length=H.length:=by rw[hH7,aO8]
  have hB7:H7[H0.length]?=some (.cells .live [.int .i64 (n:Int),v,.aH]):=by rw[hH7,aNl (by omega)]
  have a7:=fun m l o=>pC (T:=H7) (n:=m) (l:=l) (o:=o) (show H0.length<H7.length by omega)
  have a8:=fun m o=>pk (n:=m) (o:=o) hB7 (by decide)
  refine ew 1 ?_;simp only[↓aN,aO,aJ,dJ,↓reduceIte,aa,ah,ae,ao,hl,g4,g5,a2,a4,sL,sL4,pL,hvo,<-hH7,a7,a8];refine⟨fun k hk=>by rw[aNq (by omega),hH7,aNh (by omega)];exact hK k hk,v,G,P,rfl,?_,Ud,aib⟩
  have:=qz (l:=[cz.map .live [] []]) (H:=H7) (s:=1) (low:=H0.length) (v:=v) (n:=G.length) (cs:=G.map dO) ?_
  ·exact this
  ·rcases pV with⟨e1,e2,e3⟩|⟨e1,b,e2,e3,e4,e5⟩
   ·exact .inl ⟨e1,e2,e3⟩
   ·exact .inr ⟨e1,b,by omega,by omega,e4,by rw[hH7,aNh (by omega)];exact e5⟩
def fv(a:List Rat):kY.FV:=fun c=>a.getD c 0
theorem sM{a b:List Rat}:∀{n:Nat},eI a b n=kY.ip n (fv a) (fv b)
 |0=>rfl
 |n+1=>by
  rw[eI,sM];rfl
theorem fO{A D:Int}{b:Nat}(hD:D≠0)(hA:A.natAbs<=2^b)(hB:D.natAbs<=2^b):Bq (b+1) ((A:Rat)/(D:Rat)):=by rw[<-aVc];have hp:2^b<2^(b+1):=Nat.pow_lt_pow_right (by omega) (by omega);exact Bq.divInt hD (by omega) (by omega)
theorem As{b:Nat}{q:List Rat}(h:kY.CV b (fv q)):BL (b+1) q:=by intro x hx;obtain⟨j,hj,e⟩:=aTU hx;obtain⟨D,A,h0,h1,h2⟩:=h;have h3:=(h2 j).1;unfold fv at h3;rw[aQP,aL5 hj,aMp,e]at h3;rw[h3];exact fO h0 (h2 j).2 h1
theorem ot{a:List Rat}{n:Nat}{line:List Rat}{rows:List (List Rat)}{at':Nat}:∀{i j:Nat},j<(splitK a n line rows at' i).length->row (splitK a n line rows at' i) j=sF a n line (row rows (if j<at' then j else j+1))
 |0,j,hj=>absurd hj (by simp[splitK])
 |i+1,j,hj=>by
  rw[splitK]at hj⊢;by_cases h:i=at'
  ·rw[if_pos h]at hj⊢;exact ot hj
  ·rw[if_neg h]at hj⊢;rw[aMf,aU9]at hj;have hl:=rq (a:=a) (n:=n) (line:=line) (rows:=rows) (at':=at') (i:=i);by_cases h2:j<(splitK a n line rows at' i).length
   ·rw[show row (splitK a n line rows at' i++[sF a n line (row rows i)]) j=row (splitK a n line rows at' i) j from me h2];exact ot h2
   ·have e:j=(splitK a n line rows at' i).length:=by omega
    rw[show row (splitK a n line rows at' i++[sF a n line (row rows i)]) j=sF a n line (row rows i)from lS e];congr 2;rw[hl]at e;split at e<;>split<;>omega
theorem F5{a lq x line:List Rat}{n:Nat}(hl:lq.length=x.length)(Ox:lq=line∨lq=aSR (fun x _=> -x) line line)(c:Nat):fv (sF a n lq x) c=kY.ug n (fv a) (fv line) (fv x) c:=by
 unfold sF;rw[show fv (aSR (fun u v=>u*1+v*(-(eI a x n/eI a lq n))) x lq) c=x.getD c 0*1+lq.getD c 0*(-(eI a x n/eI a lq n))from yf hl.symm (by grind) c];unfold kY.ug;rw[<-sM,<-sM];rcases Ox with rfl|rfl
 ·show _=x.getD c 0+_*lq.getD c 0
  grind
 ·rw[EZ,yf rfl (by grind)];show _=x.getD c 0+_*line.getD c 0
  grind
theorem ajK{n m:Nat}{S:kY.FV->Prop}{l l':Nat->kY.FV}(h:kY.Li n m S l)(e:∀i,i<m->∀c,l' i c=l i c):kY.Li n m S l':=by
 intro x;rw[<-h x];refine⟨kY.gy.trans ?_,kY.gy.trans ?_⟩
 ·rintro a ⟨i,hi,ea⟩;exact(kY.gy.of (kY.SR.get hi)).ext (fun c=>by rw[ea,e i hi])
 ·rintro a ⟨i,hi,ea⟩;exact(kY.gy.of (kY.SR.get hi)).ext (fun c=>by rw[ea,e i hi])
def CR(b:Nat)(rows:List (List Rat)):Prop:=∀i,i<rows.length->kY.CV b (fv (row rows i))
theorem CR.ME{b:Nat}{rows:List (List Rat)}(h:CR b rows):rH (b+1) rows:=fun i hi=>As (h i hi)
theorem qP{a:List Rat}{n at':Nat}{lq:List Rat}{rows:List (List Rat)}(zr:at'<rows.length):(splitK a n lq rows at' rows.length).length=rows.length-1:=by rw[rq,if_neg (by omega)]
theorem Ub{a lq:List Rat}{n at':Nat}{rows:List (List Rat)}{S:kY.FV->Prop}(h:kY.Li n rows.length S (fun i=>fv (row rows i)))(zr:at'<rows.length)(hw:nJ rows n)(hl:lq.length=n)(Ox:lq=row rows at'∨lq=aSR (fun x _=> -x) (row rows at') (row rows at'))(dY:eI a (row rows at') n≠0):kY.Li n (splitK a n lq rows at' rows.length).length (fun x=>S x∨x=fv a) (fun i=>fv (row (splitK a n lq rows at' rows.length) i)):=by rw[sM]at dY;have h1:=h.split zr dY;rw[qP zr];refine ajK h1 (fun i hi c=>?_);rw[ot (by rw[qP zr];exact hi)];rw[F5 (line:=row rows at') (by rw[hl,hw _ (by split<;>omega)]) Ox];rfl
theorem Z5{a lq:List Rat}{n at' b k:Nat}{rows:List (List Rat)}(zr:at'<rows.length)(hw:nJ rows n)(hn:n<=8)(hl:lq.length=n)(Ox:lq=row rows at'∨lq=aSR (fun x _=> -x) (row rows at') (row rows at'))(dY:eI a (row rows at') n≠0)(ha:kY.CV b (fv a))(hr:CR k rows):CR (2*k+b+4) (splitK a n lq rows at' rows.length):=by
 intro i hi;rw[ot hi];rw[qP zr]at hi;have adB:(if i<at' then i else i+1)<rows.length:=by split<;>omega
 obtain⟨D,A,h0,h1,h2⟩:=kY.CV.ug ha (hr at' zr) (hr _ adB) hn (by rw[<-sM];exact dY);exact⟨D,A,h0,h1,fun c=>by rw[F5 (line:=row rows at') (by rw[hl,hw _ adB]) Ox];exact h2 c⟩
theorem Vq{a lq:List Rat}{n at':Nat}{rows:List (List Rat)}(zr:at'<rows.length)(hw:nJ rows n)(hl:lq.length=n):nJ (splitK a n lq rows at' rows.length) n:=by
 intro i hi;rw[ot hi];rw[qP zr]at hi;unfold sF;rw[aSY,hw _ (by split<;>omega),hl,aT0]
theorem Rh{a lq:List Rat}{n at':Nat}{rows:List (List Rat)}(zr:at'<rows.length)(hw:nJ rows n)(hl:lq.length=n)(Ox:lq=row rows at'∨lq=aSR (fun x _=> -x) (row rows at') (row rows at'))(dY:eI a (row rows at') n≠0)(i:Nat)(hi:i<(splitK a n lq rows at' rows.length).length):eI a (row (splitK a n lq rows at' rows.length) i) n=0:=by
 rw[ot hi,sM];rw[qP zr]at hi;rw[kY.wO (fun _=>rfl) (F5 (line:=row rows at') (by rw[hl,hw _ (by split<;>omega)]) Ox)];exact kY.IT (by rw[<-sM];exact dY)
theorem xG{a b:List Rat}:∀{n:Nat},eI (aSR (fun x _=> -x) a a) b n= -eI a b n
 |0=>by simp only[eI];grind
 |n+1=>by
  have h1:=xG (a:=a) (b:=b) (n:=n);have h2:=yf (a:=a) (b:=a) (g:=fun x _=> -x) rfl (by grind) n;rw[eI,eI,h1,h2]
  grind
theorem Nl{a b:List Rat}{q:Rat}:∀{n:Nat},eI a (b.map fun x=>x*q) n=eI a b n*q
 |0=>by simp only[eI];grind
 |n+1=>by
  have h1:=Nl (a:=a) (b:=b) (q:=q) (n:=n);have h2:(b.map fun x=>x*q).getD n 0=b.getD n 0*q:=by
   simp only[aQP,aLI];cases b[n]? with
   |none=>simp only[Option.map_none,aVg];grind
   |some x=>rfl
  rw[eI,eI,h1,h2]
  grind
theorem Sw{q:Rat}:0<q↔0<q.num:=by
 constructor
 ·intro h;rw[Rat.lt_iff]at h;simpa using h
 ·intro h;rw[Rat.lt_iff];simpa using h
theorem Pw{n:Nat}:kY.Li n (mG n).length (fun _=>False) (fun i=>fv (row (mG n) i)):=by
 have hl:(mG n).length=n:=by unfold mG;rw[aTV,aVa]
 rw[hl];refine kY.Li.start (fun i hi c=>?_);rw[uR hi];unfold fv DQ;rw[aQP,aKQ];by_cases h:i=c
 ·subst h;rw[if_pos rfl,if_pos (by rw[aT1];exact hi),if_pos rfl];rfl
 ·rw[if_neg h,if_neg (fun e=>h e.symm),aVb]
  split<;>rfl
theorem TU{n:Nat}:CR 0 (mG n):=by
 intro i hi;have hl:(mG n).length=n:=by unfold mG;rw[aTV,aVa]
 rw[hl]at hi;refine⟨1,fun c=>if c=i then 1 else 0,by decide,by decide,fun c=>⟨?_,by simp only;split<;>decide⟩⟩;simp only;rw[uR hi];unfold fv DQ;rw[aQP,aKQ];by_cases h:i=c
 ·subst h;rw[if_pos rfl,if_pos (by rw[aT1];exact hi)]
  simp only[aMp,if_true];grind
 ·rw[if_neg h,if_neg (fun e=>h e.symm),aVb]
  split
  ·simp only[aMp];grind
  ·simp only[aVg];grind
def lB(b:Nat):Nat->Nat
 |0=>0
 |m+1=>2*lB b m+b+4
theorem adl{b m m':Nat}(h:m<=m'):lB b m<=lB b m':=by
 induction h with
 |refl=>exact aKR _
 |step _ ih=>rw[lB];omega
def vt(v:AV)(rows:List (List Rat))(n:Nat):Prop:=(rows=[]/\v=.aH)∨rows≠[]/\∃vs,v=.aK vs rows.length/\oq vs rows n
theorem vt.len{v:AV}{rows:List (List Rat)}{n:Nat}(h:vt v rows n):k9 v=some (rows.length:Int):=by
 rcases h with⟨rfl,rfl⟩|⟨-,vs,rfl,-⟩<;>rfl
theorem vt.pure{v:AV}{rows:List (List Rat)}{n:Nat}(h:vt v rows n):aU v=true:=by
 rcases h with⟨rfl,rfl⟩|⟨-,vs,rfl,-⟩<;>rfl
theorem adr{H:Hp}{b m:Nat}{hs:List AV}{k:IntKind}{z:Int}(h:H[b]?=some (.cells .live hs))(hm:hs.length=m)(hf:∀v∈hs,Flat v):ow false H [.agg [.int k z,.aI b 0 m 1 m,.aH]]=some ([.agg [.int k z,.aK hs m,.aH]],[b]):=by
 have h6:=oe (n:=38) (off:=0) (len:=m) (esz:=1) (k:=m) h (by decide) (by omega) (by rw[List.drop_zero,Nat.mul_one,<-hm,aQV];exact gf hf);rw[iP,eo]at h6;have h7:Dv.fz H 40 (.agg [.int k z,.aI b 0 m 1 m,.aH])=some (.agg [.int k z,.aK hs m,.aH],[b]):=by unfold Dv.fz;simp only[dP,h6];rfl
 rw[nQ];unfold bW;rw[if_neg (by simp[bE,aU])];simp only[dP,h7];rfl
def eqS(eqs:List (List Rat))(i:Nat):kY.FV->Prop:=fun a=>∃j,j<i/\a=fv (row eqs j)
theorem AU{n b:Nat}{ev:AV}{eqs:List (List Rat)}(he:vt ev eqs n)(hw:nJ eqs n)(h0:0<n)(hn:n<=8)(hR:eqs.length<=256)(hb:CR b eqs)(zg:5^n*(lB b eqs.length+1)<=10000000000)(Ao:b+lB b eqs.length+2<=500000):
  ∃r G P,aP E 56 [.int .i64 (n:Int),ev,.aH]=some r/\(∃o,r=.agg [.int .i64 (n:Int),o,.aH]/\(G=[]/\o=.aH∨G≠[]/\o=.aK (G.map dO) G.length))/\nJ G n/\kY.rN n G.length (fun i=>iN G i) P (kY.uS n eqs.length (fun i=>fv (row eqs i))):=by
 suffices hh:∃r,aP E 56 [.int .i64 (n:Int),ev,.aH]=some r/\∃G P,(∃o,r=.agg [.int .i64 (n:Int),o,.aH]/\(G=[]/\o=.aH∨G≠[]/\o=.aK (G.map dO) G.length))/\nJ G n/\kY.rN n G.length (fun i=>iN G i) P (kY.uS n eqs.length (fun i=>fv (row eqs i)))by
  obtain⟨r,h1,G,P,h2⟩:=hh;exact⟨r,G,P,h1,h2⟩
 have hev:=he.len;have pev:=he.pure;obtain⟨r,H1,fZ,rfl,hHl,hHk,Lv,hHB,hHL⟩:=PM (E:=E) (H0:=[cz.cells gu.live [AV.int IntKind.i64 0,AV.aH,AV.aH]]) hn h0;refine Vy azd ?_;intro ts hl g0 g1 g2;unfold c56;simp only[↓aN,aO,↓aQ,aJ,aa,ae,Tryz.f56,hl,g0,g1,hev,fZ];have hlB:∀i,i<=eqs.length->lB b i<=lB b eqs.length:=fun i hi=>adl hi
 refine ft (fun k_ ts H=>∃i HC Lw rows,k_=eqs.length-i/\ts.length=41/\gt ts 0=.int .i64 (n:Int)/\gt ts 2=.aH/\gt ts 6=.b9 0 0/\gt ts 7=.b9 1 0/\gt ts 14=ev/\gt ts 15=.int .i64 (eqs.length:Int)/\gt ts 16=.int .i64 (i:Int)/\H=HC/\(i<=eqs.length)/\(1<HC.length)/\(HC[0]?=some (.cells .live [.int .i64 0,.aH,.aH]))/\(HC[1]?=some (.cells .live [Lw,.aH,.int .i64 ((2*i:Nat):Int)]))/\(nX HC 1 n Lw rows)/\(rows.length<=n)/\(nJ rows n)/\(kY.Li n rows.length (eqS eqs i) (fun j=>fv (row rows j)))/\(CR (lB b i) rows)) (eqs.length) ?_ ?_
 rotate_left
 ·refine⟨0,H1,Lv,(mG n),(by first|omega|rfl|(simp;done)),(by simp only[cP,hl]),?_⟩;simp only[cR,hl,aa,ae,g0,g2]
  iterate 8 refine⟨by first|trivial|rfl|(congr 1;omega)|(simp;done)|(simp;omega),?_⟩
  refine⟨?_,?_,?_,?_,?_,?_,?_,?_,?_⟩
  ·omega
  ·exact hHl
  ·exact hHk 0 (by decide)
  ·exact hHB
  ·exact hHL
  ·unfold mG;rw[aTV,aVa];exact aKR _
  ·intro j hj;unfold mG at hj;rw[aTV,aVa]at hj;rw[uR hj,B9]
  ·exact Pw.congr (fun x=>⟨fun _ a ⟨j,hj,_⟩=>absurd hj (by omega),fun _ a ha=>ha.elim⟩)
  ·exact TU
 clear hl g0 g1 g2 ts;rintro k_ ts H ⟨i,HC,Lw,rows,rfl,hl,g0,g2,g6,g7,g14,g15,g16,rfl,hi,Ab,h0b,hB,hL,hRl,hW,ahD,hCR⟩;refine VS ?_;have aGJ:=hlB i hi;by_cases hd:i<eqs.length
 ·have dc:decide ((i:Int)<(eqs.length:Int))=true:=b8 (by omega);have mM:((i:Int)<(eqs.length:Int))=True:=eq_true (by omega);have w1:aX .i64 ((i:Int)+1)=((i+1:Nat):Int):=by rw[wrap_i64 (by omega) (by omega)];omega
  have avS:=hlB (i+1) hd;obtain⟨-,vs,rfl,hm⟩:=he.resolve_left (fun h=>by rw[h.1]at hd;exact absurd hd (by simp));obtain⟨xx,abF⟩:=hm.2 i hd;have p1:=fX (vs:=vs) (i:=i) (by have:=hm.1;omega);have ba:BL (b+1) (row eqs i):=As (hb i hd);have bb:=hCR.ME;obtain⟨nv,tq,inv⟩:=IS (E:=E) xx (by omega);have Mf:(aSR (fun x _=> -x) (row eqs i) (row eqs i)).length=n:=by rw[aSY,abF,aT0]
  have bn:BL (b+1) (aSR (fun x _=> -x) (row eqs i) (row eqs i)):=by intro q hq;rw[nT,aMg]at hq;obtain⟨x,hx,rfl⟩:=hq;exact(ba x hx).neg
  have pri:=xx.pure;have pnv:aU nv=true/\bR nv=false:=by obtain⟨cs,rfl,-⟩:=inv;exact⟨rfl,rfl⟩
  have hSe:∀x:kY.FV,(∀a,(eqS eqs i a∨a=fv (row eqs i))->kY.ip n a x=0)↔(∀a,eqS eqs (i+1) a->kY.ip n a x=0):=by
   intro x;refine⟨fun h a ⟨j,hj,e⟩=>?_,fun h a ha=>?_⟩
   ·by_cases Ow:j=i
    ·subst Ow;exact h a (.inr e)
    ·exact h a (.inl ⟨j,by omega,e⟩)
   ·rcases ha with⟨j,hj,e⟩|e
    ·exact h a ⟨j,by omega,e⟩
    ·exact h a ⟨i,by omega,e⟩
  generalize vs.getD i aZ=rv at*;by_cases hz:∀j,j<rows.length->eI (row eqs i) (row rows j) n=0
  ·obtain⟨u1,H2,ZH,rfl,Tc,hB2⟩:=add_zero (E:=E) Ab hB hL xx abF hn (by omega) ba bb (by omega) hz (by omega);obtain⟨u2,H3,Yh,rfl,hl3,hB3⟩:=add_zero (E:=E) (B:=1) (H0:=H2) (by have:=Tc.1.1;omega) hB2 (hL.mono Tc) inv Mf hn (by omega) bn bb (by omega) (fun j hj=>by rw[xG,hz j hj];grind) (by omega);simp only[↓aN,aO,↓aQ,aJ,↓reduceIte,aa,ae,hl,g7,g14,g15,g16,mM,w1,p1,ZH,tq,Yh,pri,pnv,tG];refine dG ?_;refine⟨_,?_,i+1,H3,Lw,rows,rfl,(by simp only[cP,hl]),?_⟩
   ·first|omega|(simp;omega)
   simp only[cR,hl,aa,ae,g0,g2,g6,g7,g14,g15]
   iterate 8 refine⟨by first|trivial|rfl|(congr 1;omega)|(simp;done)|(simp;omega),?_⟩
   refine⟨?_,?_,?_,?_,?_,?_,?_,?_,?_⟩
   ·omega
   ·have:=Tc.1.1;have:=hl3.1.1;omega
   ·rw[hl3.1.2 0 (by omega) (by have:=Tc.1.1;omega),Tc.1.2 0 (by omega) (by omega)];exact h0b
   ·exact hB3
   ·exact hL.mono (Tc.trans hl3)
   ·exact hRl
   ·exact hW
   ·exact(ahD.keep (fun j hj=>by rw[<-sM];exact hz j hj)).congr hSe
   ·intro j hj;exact(hCR j hj).mono (by rw[lB];omega)
  ·obtain⟨u1,H2,ZH,rfl,at',H1',zr,dY,Yz,hso⟩:=T9 (E:=E) Ab hB hL xx abF hn (by omega) ba bb (by omega) hz (by omega);obtain⟨ac4,Lx,rb,P,ws,lq,c,q1,q2,q3,q4,q5,q6,q7,q8,q9,q10,q11,q12,q13⟩:=hso.ex;have hpb:BL ((lB b i+1)+((lB b i+1)+2*(n*(lB b i+1)+1))) (lq.map fun x=>x*c):=by intro q hq;rw[aMg]at hq;obtain⟨x,hx,rfl⟩:=hq;exact(q9 x hx).mul q8
   have aG4:n*(lB b i+1)<=8*500000:=Nat.mul_le_mul hn (by omega);have amp:=Z5 zr hW hn q10 q11 dY (hb i hd) hCR;have aq3:0<(eI (aSR (fun x _=> -x) (row eqs i) (row eqs i)) (lq.map fun x=>x*c) n).num:=by
    rw[xG,Nl];have h1:0< -(eI (row eqs i) lq n):=by rw[Sw,Rat.neg_num];omega
    have h2:=Rat.mul_pos h1 q7;rw[<-Sw]
    have: -(eI (row eqs i) lq n*c)= -(eI (row eqs i) lq n)*c:=by grind
    rw[this];exact h2
   have sT:=qP (a:=row eqs i) (n:=n) (lq:=lq) zr;obtain⟨u2,H3,Yh,rfl,hl3,hB3⟩:=Q9 (E:=E) (B:=1) (H0:=H2) (rows:=splitK (row eqs i) n lq rows at' rows.length) (N:=2*i+1) (by have:=Yz.1.1;have:=ac4.1.1;omega) q1 q2 q3 q4 q5 q6 (by rw[aTV];exact q10) q13 inv Mf hn (by omega) bn amp.ME (by rw[lB]at avS;omega) (fun j hj=>by rw[xG,Rh zr hW q10 q11 dY j hj];grind) (by omega) hpb (by omega) aq3;simp only[↓aN,aO,↓aQ,aJ,↓reduceIte,aa,ae,hl,g7,g14,g15,g16,mM,w1,p1,ZH,tq,Yh,pri,pnv,tG];refine dG ?_;refine⟨_,?_,i+1,H3,Lx,(splitK (row eqs i) n lq rows at' rows.length),rfl,(by simp only[cP,hl]),?_⟩
   ·first|omega|(simp;omega)
   simp only[cR,hl,aa,ae,g0,g2,g6,g7,g14,g15]
   iterate 8 refine⟨by first|trivial|rfl|(congr 1;omega)|(simp;done)|(simp;omega),?_⟩
   refine⟨?_,?_,?_,?_,?_,?_,?_,?_,?_⟩
   ·omega
   ·have:=Yz.1.1;have:=ac4.1.1;have:=hl3.1.1;omega
   ·rw[hl3.1.2 0 (by omega) (by have:=Yz.1.1;have:=ac4.1.1;omega),ac4.1.2 0 (by omega) (by have:=Yz.1.1;omega),Yz.1.2 0 (by omega) (by omega)];exact h0b
   ·exact hB3
   ·exact q13.mono hl3
   ·omega
   ·exact Vq zr hW q10
   ·exact(Ub ahD zr hW q10 q11 dY).congr hSe
   ·intro j hj;exact(amp j hj).mono (by rw[lB];omega)
 ·have dc:decide ((i:Int)<(eqs.length:Int))=false:=cg (by omega);obtain rfl:i=eqs.length:=by omega
  have Oz:CR (lB b eqs.length) rows:=hCR;obtain⟨r,H4,N6,hk4,v,G,P,rfl,pV,Ud,hE⟩:=TR (E:=E) Ab hB hL h0 hn (by omega) (show 0<lB b eqs.length+1 by omega) hCR.ME zg;simp only[↓aN,aO,aJ,↓reduceIte,aa,ae,hl,g2,g15,g16,dc];refine ew 1 ?_;have h04:H4[0]?=some (.cells .live [.int .i64 0,.aH,.aH]):=by rw[hk4 0 (by omega)];exact h0b
  have s5:=fun m xs o=>pn (n:=m) (xs:=xs) (o:=o) h04
  have p5:∀x,eE H4 0 x=H4.set 0 x:=fun x=>kD (aKS.1 h04).1
  have hvo:v.cells=[v]/\df v=true:=by rcases pV with⟨-,-,rfl⟩|⟨-,b',-,-,rfl,-⟩<;>exact⟨rfl,rfl⟩
  obtain⟨H5,hH5⟩:∃H5,H5=H4.set 0 (.cells .live [.int .i64 (n:Int),v,.aH]):=⟨_,rfl⟩;have h05:H5[0]?=some (.cells .live [.int .i64 (n:Int),v,.aH]):=by rw[hH5,aNl (aKS.1 h04).1]
  have a5:=fun m o=>pk (n:=m) (o:=o) h05 (by decide)
  obtain⟨ov,bs5,gg,mP⟩:∃o bs,ow (aU v) H5 [.agg [.int .i64 (n:Int),v,.aH]]=some ([.agg [.int .i64 (n:Int),o,.aH]],bs)/\(G=[]/\o=.aH∨G≠[]/\o=.aK (G.map dO) G.length):=by
   rcases pV with⟨e1,e2,rfl⟩|⟨e1,b',e2,e3,rfl,e5⟩
   ·exact⟨.aH,[],rfl,.inl ⟨aTY e1,rfl⟩⟩
   ·refine⟨.aK (G.map dO) G.length,[b'],adr (by rw[hH5,aNh (by omega)];exact e5) (by rw[aTV]) ?_,.inr ⟨fun h=>by rw[h]at e1;exact absurd e1 (by simp),rfl⟩⟩;intro w hw';rw[aMg]at hw';obtain⟨q,-,rfl⟩:=hw';exact fun H n=>rfl
  simp only[↓aN,aO,↓aQ,aJ,↓reduceIte,aa,ah,ae,ao,hl,g0,g6,g7,N6,s5,p5,hvo,<-hH5,a5,gg];refine⟨G,P,⟨ov,rfl,mP⟩,Ud,hE.congr (fun x=>?_)⟩;refine(ahD x).trans ?_;unfold kY.uS;refine and_congr Iff.rfl ⟨fun h i hi=>h _ ⟨i,hi,rfl⟩,fun h a ⟨i,hi,e⟩=>by rw[e];exact h i hi⟩
theorem afO{n:Nat}:Lib.decDigits n≠[]:=by
 intro e
 have:=S4 n
 by_cases h:n=0
 ·subst h;have h2:Lib.decDigits 0=[48]:=by rw[Lib.decDigits];rfl
  rw[h2]at e;exact absurd e (by simp)
 ·rw[e]at this;exact h this.symm
theorem afP{n:Nat}:Ew (Lib.decDigits n)=true:=by
 unfold Ew;rw[Bool.and_eq_true];refine⟨?_,aLN.2 (Jt n)⟩
 have:=afO (n:=n)
 cases h:Lib.decDigits n with
 |nil=>exact absurd h this
 |cons a l=>rfl
theorem NP{b:UInt8}(h:lJ b=true):(b==47)=false:=by
 rw[beq_eq_false_iff_ne];rintro rfl
 revert h
 decide
theorem Tt{z:Int}:∀b∈Lib.itoa z,(b==47)=false:=by
 intro b hb;unfold Lib.itoa at hb;split at hb
 ·rw[aMc]at hb;rcases hb with rfl|hb
  ·rfl
  ·exact NP (Jt _ b hb)
 ·exact NP (Jt _ b hb)
theorem Yo{s t:List UInt8}(h:∀b∈s,(b==47)=false):(s++47::t).takeWhile (fun b=>!(b==47))=s/\(s++47::t).dropWhile (fun b=>!(b==47))=47::t:=by
 induction s with
 |nil=>exact⟨rfl,rfl⟩
 |cons a s ih=>
  have h1:=h a (by simp);obtain⟨e1,e2⟩:=ih (fun b hb=>h b (by simp[hb]));simp only[aPr,aSX,List.dropWhile_cons,h1,aVd,if_true];exact⟨by rw[e1],e2⟩
theorem aep{s:List UInt8}(h:∀b∈s,(b==47)=false):s.takeWhile (fun b=>!(b==47))=s:=by
 induction s with
 |nil=>rfl
 |cons a s ih=>
  have h1:=h a (by simp);simp only[aSX,h1,aVd,if_true];rw[ih (fun b hb=>h b (by simp[hb]))]
theorem any_none{s:List UInt8}(h:∀b∈s,(b==47)=false):s.any (fun b=>b==47)=false:=by rw[List.any_eq_false];intro b hb;rw[h b hb];decide
theorem FG{q:Rat}:wP (dh q)=Lib.itoa q.num/\sy (dh q)=!decide (q.den=1)/\(q.den≠1->kS (dh q)=Lib.decDigits q.den):=by
 have h47:=Tt (z:=q.num);unfold dh wP kS sy;by_cases h:q.den=1
 ·rw[if_pos h,aep h47,any_none h47];exact⟨rfl,by rw[b8 h];rfl,fun e=>absurd h e⟩
 ·rw[if_neg h];have e:Lib.itoa q.num++[47]++Lib.itoa (q.den:Int)=Lib.itoa q.num++47::Lib.itoa (q.den:Int):=by rw[aRd];rfl
  rw[e,(Yo h47).1,(Yo h47).2];refine⟨rfl,?_,fun _=>?_⟩
  ·rw[cg h,List.any_append,List.any_cons];simp
  ·unfold Lib.itoa;rw[if_neg (by omega)];rfl
theorem itoa_neg{z:Int}:Lib.hasPrefix (Lib.itoa z) [45]=decide (z<0)/\Lib.trimPrefix (Lib.itoa z) [45]=Lib.decDigits z.natAbs:=by
 unfold Lib.itoa;by_cases h:z<0
 ·rw[if_pos h,b8 h];refine⟨rfl,?_⟩;unfold Lib.trimPrefix;simp[Lib.hasPrefix]
 ·rw[if_neg h,cg h];have h1:=IH (Jt z.toNat);refine⟨h1.1,?_⟩;rw[h1.2];congr 1;omega
theorem MO{q:Rat}:pN (dh q)=q.num/\Gc (dh q)=decide (q.num<0)/\oD (dh q)=Lib.decDigits q.num.natAbs:=by
 obtain⟨h1,h2,h3⟩:=FG (q:=q);obtain⟨i1,i2⟩:=itoa_neg (z:=q.num);have a:Gc (dh q)=decide (q.num<0):=by unfold Gc;rw[h1,i1]
 have b:oD (dh q)=Lib.decDigits q.num.natAbs:=by unfold oD;rw[h1,i2]
 refine⟨?_,a,b⟩;unfold pN;rw[a,b,S4];by_cases h:q.num<0
 ·rw[b8 h,if_pos rfl];omega
 ·rw[cg h,if_neg (by decide)];omega
theorem rh{q:Rat}:fh (dh q)=q:=by
 obtain⟨h1,h2,h3⟩:=FG (q:=q);unfold fh;rw[h2,MO.1];by_cases h:q.den=1
 ·rw[b8 h,if_neg (by decide)]
  have:=aSx q
  rw[h]at this;rw[<-this];rw[aVc];simp only[aVc]at*
  grind
 ·rw[cg h,aVd,if_pos rfl];unfold rI;rw[h3 h,S4,aSx]
theorem Sk{neg:Bool}{n:Nat}(h:n=0->neg=false):sr neg (Lib.decDigits n)=false:=by
 unfold sr;by_cases h0:n=0
 ·subst h0;have h2:Lib.decDigits 0=[48]:=by rw[Lib.decDigits];rfl
  rw[h2,h rfl];rfl
 ·have:=RJ n (by omega)
  rw[show((Lib.decDigits n).head?==some 48)=false from beq_eq_false_iff_ne.2 this];rfl
theorem U3{q:Rat}{L:Int}(hL:((dh q).length:Int)<=L):cN L (dh q)=0:=by
 obtain⟨h1,h2,h3⟩:=FG (q:=q);obtain⟨n1,n2,n3⟩:=MO (q:=q);have hd:0<q.den:=jA q;unfold cN;rw[if_neg (by omega),n3,afP,h2,n2];have b1:sr (decide (q.num<0)) (Lib.decDigits q.num.natAbs)=false:=Sk (fun h=>cg (by omega));rw[b1];by_cases h:q.den=1
 ·rw[b8 h]
  simp
 ·rw[cg h,h3 h,afP];have hz:(Lib.decDigits q.den).all (·==48)=false:=by
   have:=RJ q.den hd
   cases hc:Lib.decDigits q.den with
   |nil=>exact absurd hc afO
   |cons a l=>
    rw[hc]at this;simp only[List.head?_cons,ne_eq,aKV.injEq]at this;rw[aN1,show(a==48)=false from beq_eq_false_iff_ne.2 this];rfl
  have hb:sr false (Lib.decDigits q.den)=false:=Sk (fun _=>rfl);have hr:rI (dh q)=q.den:=by unfold rI;rw[h3 h,S4]
  have hg:Int.gcd q.num q.den=1:=by
   have:=q.reduced
   rw[Int.gcd,Int.natAbs_natCast];exact this
  rw[hz,hb,hr,n1,hg];simp[h]
theorem Xi:∀(n k:Nat),n<2^k->(Lib.decDigits n).length<=k/3+1:=by
 intro n;induction n using Nat.strongRecOn with
 |ind n ih=>
  intro k hk;rw[Lib.decDigits]
  split
  ·simp
  ·rename_i h;rw[aMf,aU9];have hk3:3<=k:=by
    apply Classical.byContradiction;intro hn
    have:2^k<=2^2:=Nat.pow_le_pow_right (by omega) (by omega)
    omega
   have h2:n/10<2^(k-3):=by
    have e:2^k=2^(k-3)*8:=by rw[show(8:Nat)=2^3 from rfl,<-Nat.pow_add,show k-3+3=k by omega]
    have:n<2^(k-3)*10:=by omega
    exact Nat.div_lt_of_lt_mul (by rw[Nat.mul_comm];exact this)
   have:=ih (n/10) (by omega) (k-3) h2
   omega
theorem yb{q:Rat}{k:Nat}(h:Bq k q):(dh q).length<=2*(k/3)+4:=by
 have h1:=Xi _ _ h.1;have h2:=Xi _ _ h.2;have h3:∀z:Int,(Lib.itoa z).length<=(Lib.decDigits z.natAbs).length+1:=by
  intro z;unfold Lib.itoa
  split
  ·rw[aMm];exact aKR _
  ·rw[show z.toNat=z.natAbs by omega];omega
 have h4:=h3 q.num;have h5:(Lib.itoa (q.den:Int)).length=(Lib.decDigits q.den).length:=by unfold Lib.itoa;rw[if_neg (by omega)];rfl
 unfold dh
 split
 ·omega
 ·simp only[aMf,aU9];omega
theorem oG{q:Rat}{k:Nat}(h:Bq k q)(hk:k<=98000):cN 65536 (dh q)=0:=U3 (by have:=yb h;omega)
theorem SK{qs:List Rat}{k:Nat}(h:BL k qs)(hk:k<=98000):gU 65536 (qs.map dh)=0:=by
 induction qs with
 |nil=>rfl
 |cons q qs ih=>
  rw[List.map_cons,gU,oG (h q (by simp)) hk];simp only[ne_eq,not_true_eq_false,if_false];exact ih (fun x hx=>h x (by simp[hx]))
theorem KH{qs:List Rat}:(qs.map dh).map fh=qs:=by rw[List.map_map];refine(List.map_congr_left (fun q _=>?_)).trans (List.map_id _);exact rh
def vJ(v:AV)(G:List (List Rat)):Prop:=(G=[]/\v=.aH)∨(G≠[]/\v=.aK (G.map dO) G.length)
theorem vJ.len{v:AV}{G:List (List Rat)}(h:vJ v G):k9 v=some (G.length:Int):=by
 rcases h with⟨rfl,rfl⟩|⟨h0,rfl⟩<;>rfl
theorem vJ.pure{v:AV}{G:List (List Rat)}(h:vJ v G):aU v=true:=by
 rcases h with⟨rfl,rfl⟩|⟨h0,rfl⟩<;>rfl
theorem Ag{G:List (List Rat)}{i:Nat}(h:i<G.length):(G.map dO).getD i aZ=dO (row G i):=by unfold row;rw[aQP,aLI,aQP,aL5 h];rfl
theorem Ib{q:List Rat}{k:Nat}(h:BL k q)(hk:k<=98000)(hn:q.length<=1000):∃r,aP E 52 [dO q]=some (.tuple [r,.int .i64 0])/\iY r q:=by
 obtain⟨r,h1,h2,-⟩:=GD (E:=E) (ss:=q.map dh) (by
  intro s hs;rw[aMg]at hs;obtain⟨x,hx,rfl⟩:=hs
  have:=yb (h x hx)
  omega) (by rw[aTV];exact hn)
 rw[SK h hk]at h1 h2
 have:=h2 rfl
 rw[KH]at this;refine⟨r,?_,this⟩;unfold dO;rw[aTV,List.map_map]at h1;exact h1
theorem AT{v:AV}{G:List (List Rat)}{n k:Nat}(h:vJ v G)(hw:nJ G n)(hb:rH k G)(hk:k<=98000)(hn:n<=1000)(hm:G.length<=1000):
  ∃r,aP E 54 [v]=some r/\vt r G n:=by
 have Fy:=h.len;have pv:=h.pure;refine nY ay6 ?_;intro ts hl g0;unfold c54;simp only[↓aN,aO,aJ,aa,ae,Tryz.f54,hl,g0,Fy];refine ft (fun k_ ts H=>∃i w vr HC,k_=G.length-i/\ts.length=25/\gt ts 3=w/\gt ts 8=v/\gt ts 9=.int .i64 (G.length:Int)/\gt ts 10=.int .i64 (i:Int)/\H=HC/\(i<=G.length)/\(wW 1 0 w HC i vr)/\(vr.length=i/\∀j,j<i->iY (vr.getD j aZ) (row G j))) (G.length) ?_ ?_
 rotate_left
 ·refine⟨0,.aH,[],[],(by first|omega|rfl|(simp;done)),(by simp only[cP,hl]),?_⟩;simp only[cR,hl,aa,ae]
  iterate 5 refine⟨by first|trivial|rfl|(congr 1;omega)|(simp;done)|(simp;omega),?_⟩
  refine⟨?_,?_,?_⟩
  ·omega
  ·exact .inl ⟨rfl,rfl,rfl⟩
  ·exact⟨rfl,fun j hj=>by omega⟩
 clear hl g0 ts;rintro k_ ts H ⟨i,w,vr,HC,rfl,hl,g3,g8,g9,g10,rfl,hi,pV,Gn⟩;refine VS ?_;by_cases hd:i<G.length
 ·have dc:decide ((i:Int)<(G.length:Int))=true:=b8 (by omega);have mM:((i:Int)<(G.length:Int))=True:=eq_true (by omega);have w1:aX .i64 ((i:Int)+1)=((i+1:Nat):Int):=by rw[wrap_i64 (by omega) (by omega)];omega
  obtain⟨-,rfl⟩:=h.resolve_left (fun h=>by rw[h.1]at hd;exact absurd hd (by simp));have p1:=fX (vs:=G.map dO) (i:=i) (by rw[aTV];exact hd);rw[Ag hd]at p1;obtain⟨r,hr,ir⟩:=Ib (E:=E) (hb i hd) hk (by rw[hw i hd];exact hn);obtain⟨cs,rfl,rc⟩:=id ir;have ptx:aU (dO (row G i))=true:=rfl;obtain⟨R,hR⟩:∃R,R=AV.aK cs (row G i).length:=⟨_,rfl⟩;rw[<-hR]at hr;have hRM:R.cells=[R]/\df R=true/\aU R=true/\bR R=false/\Flat R:=by subst hR;exact⟨rfl,rfl,rfl,rfl,fun _ _=>rfl⟩
  have Av:bR (.tuple [R,.int .i64 0])=false:=by subst hR;rfl
  obtain⟨bU,H2,iR,Ac,t1,t2,t3⟩:=lQ (E:=E) (H:=H) (x:=[R]) GG (by decide) pV (by omega) rfl (by simp only[aN1,hRM.2.1,aPy,aPt]) (by unfold gO;omega) (by omega);have km:∀aL,aT E aL 65 1 [(0,R)]=some (.aI aL 0 1 1 1,[(aL,.cells .live [R])]):=fun aL=>by
   have:=ee (E:=E) (aL:=aL) (v:=R) GG rfl (by decide) (by decide) (by rw[hRM.1];rfl)
   rw[hRM.1]at this;exact this
  simp only[↓aN,aO,↓aQ,aJ,↓reduceIte,aa,ae,hl,g3,g8,g9,g10,mM,w1,p1,ptx,hr,Av,km,ep,iR,Ac,tG];refine dG ?_;refine⟨_,?_,i+1,(.aI (H.length+1) 0 (i+1) 1 (i+1)),(vr++[R]),H2,rfl,(by simp only[cP,hl]),?_⟩
  ·first|omega|(simp;omega)
  simp only[cR,hl,aa,ae,g8,g9]
  iterate 5 refine⟨by first|trivial|rfl|(congr 1;omega)|(simp;done)|(simp;omega),?_⟩
  refine⟨?_,?_,?_⟩
  ·omega
  ·exact .inr ⟨by omega,H.length+1,aVe _,by omega,rfl,t1⟩
  ·refine⟨by rw[aMf,Gn.1];rfl,fun j hj=>?_⟩;by_cases Ow:j<i
   ·rw[me (by omega)];exact Gn.2 j Ow
   ·rw[lS (by omega),show j=i by omega,hR];exact ir
 ·have dc:decide ((i:Int)<(G.length:Int))=false:=cg (by omega);obtain rfl:i=G.length:=by omega
  rcases pV with⟨e1,e2,rfl⟩|⟨e1,b,e2,e3,rfl,e5⟩
  ·simp only[↓aN,aO,↓reduceIte,aa,ae,hl,g3,g9,g10,dc];exact .inl ⟨aTY e1,rfl⟩
  ·have gg:=iJ (H:=H) (b:=b) (m:=G.length) (s:=1) (st:=.live) e5 (by decide) (by omega) (by
    intro x hx;obtain⟨j,hj,e⟩:=aTU hx;obtain⟨cs,f1,-⟩:=Gn.2 j (by omega);rw[aQP,aL5 hj,aMp,e]at f1;rw[f1];exact fun _ _=>rfl)
   simp only[↓aN,aO,↓reduceIte,aa,ae,hl,g3,g9,g10,dc,gg];exact .inr ⟨fun h=>by rw[h]at e1;exact absurd e1 (by simp),vr,rfl,Gn.1,fun j hj=>⟨Gn.2 j hj,hw j hj⟩⟩
theorem um{v:AV}{G:List (List Rat)}{n k most:Nat}(h:vJ v G)(hw:nJ G n)(hb:rH k G)(hk:k<=98000)(hn:n<=1000)(hm:G.length<=most)(aDl:most<=256):
  ∃r,aP E 20 [.int .i64 (n:Int),v,.int .i64 (most:Int)]=some (.tuple [r,.int .i64 0])/\vt r G n:=by
 suffices hh:∃u,aP E 20 [.int .i64 (n:Int),v,.int .i64 (most:Int)]=some u/\∃r,u=.tuple [r,.int .i64 0]/\vt r G n by
  obtain⟨u,h1,r,rfl,h2⟩:=hh;exact⟨r,h1,h2⟩
 have hgt:decide ((G.length:Int)>(most:Int))=false:=cg (by omega);have Fy:=h.len;have pv:=h.pure;refine Vy ava ?_;intro ts hl g0 g1 g2;unfold c20;simp only[↓aN,aO,aJ,aa,ae,Tryz.f20,hl,g1,g2,Fy,hgt];refine ft (fun k_ ts H=>∃i w vr HC,k_=G.length-i/\ts.length=41/\gt ts 0=.int .i64 (n:Int)/\gt ts 8=w/\gt ts 17=v/\gt ts 18=.int .i64 (G.length:Int)/\gt ts 19=.int .i64 (i:Int)/\H=HC/\(i<=G.length)/\(wW 1 0 w HC i vr)/\(vr.length=i/\∀j,j<i->iY (vr.getD j aZ) (row G j))) (G.length) ?_ ?_
 rotate_left
 ·refine⟨0,.aH,[],[],(by first|omega|rfl|(simp;done)),(by simp only[cP,hl]),?_⟩;simp only[cR,hl,aa,ae,g0]
  iterate 6 refine⟨by first|trivial|rfl|(congr 1;omega)|(simp;done)|(simp;omega),?_⟩
  refine⟨?_,?_,?_⟩
  ·omega
  ·exact .inl ⟨rfl,rfl,rfl⟩
  ·exact⟨rfl,fun j hj=>by omega⟩
 clear hl g0 g1 g2 ts;rintro k_ ts H ⟨i,w,vr,HC,rfl,hl,g0,g8,g17,g18,g19,rfl,hi,pV,Gn⟩;refine VS ?_;by_cases hd:i<G.length
 ·have dc:decide ((i:Int)<(G.length:Int))=true:=b8 (by omega);have mM:((i:Int)<(G.length:Int))=True:=eq_true (by omega);have w1:aX .i64 ((i:Int)+1)=((i+1:Nat):Int):=by rw[wrap_i64 (by omega) (by omega)];omega
  obtain⟨-,rfl⟩:=h.resolve_left (fun h=>by rw[h.1]at hd;exact absurd hd (by simp));have p1:=fX (vs:=G.map dO) (i:=i) (by rw[aTV];exact hd);rw[Ag hd]at p1;obtain⟨r,hr,ir⟩:=Ib (E:=E) (hb i hd) hk (by rw[hw i hd];exact hn);obtain⟨cs,rfl,rc⟩:=id ir;have av2:k9 (dO (row G i))=some (n:Int):=by rw[<-hw i hd];rfl
  have hnn:((n:Int)!=(n:Int))=false:=by simp
  have ptx:aU (dO (row G i))=true:=rfl;obtain⟨R,hR⟩:∃R,R=AV.aK cs (row G i).length:=⟨_,rfl⟩;rw[<-hR]at hr;have hRM:R.cells=[R]/\df R=true/\aU R=true/\bR R=false/\Flat R:=by subst hR;exact⟨rfl,rfl,rfl,rfl,fun _ _=>rfl⟩
  have Av:bR (.tuple [R,.int .i64 0])=false:=by subst hR;rfl
  obtain⟨bU,H2,iR,Ac,t1,t2,t3⟩:=lQ (E:=E) (H:=H) (x:=[R]) GG (by decide) pV (by omega) rfl (by simp only[aN1,hRM.2.1,aPy,aPt]) (by unfold gO;omega) (by omega);have km:∀aL,aT E aL 65 1 [(0,R)]=some (.aI aL 0 1 1 1,[(aL,.cells .live [R])]):=fun aL=>by
   have:=ee (E:=E) (aL:=aL) (v:=R) GG rfl (by decide) (by decide) (by rw[hRM.1];rfl)
   rw[hRM.1]at this;exact this
  simp only[↓aN,aO,↓aQ,aJ,↓reduceIte,aa,ae,aE,hl,g0,g8,g17,g18,g19,mM,w1,p1,ptx,hr,Av,km,hnn,av2,ep,iR,Ac,tG];refine dG ?_;refine⟨_,?_,i+1,(.aI (H.length+1) 0 (i+1) 1 (i+1)),(vr++[R]),H2,rfl,(by simp only[cP,hl]),?_⟩
  ·first|omega|(simp;omega)
  simp only[cR,hl,aa,ae,g0,g17,g18]
  iterate 6 refine⟨by first|trivial|rfl|(congr 1;omega)|(simp;done)|(simp;omega),?_⟩
  refine⟨?_,?_,?_⟩
  ·omega
  ·exact .inr ⟨by omega,H.length+1,aVe _,by omega,rfl,t1⟩
  ·refine⟨by rw[aMf,Gn.1];rfl,fun j hj=>?_⟩;by_cases Ow:j<i
   ·rw[me (by omega)];exact Gn.2 j Ow
   ·rw[lS (by omega),show j=i by omega,hR];exact ir
 ·have dc:decide ((i:Int)<(G.length:Int))=false:=cg (by omega);obtain rfl:i=G.length:=by omega
  rcases pV with⟨e1,e2,rfl⟩|⟨e1,b,e2,e3,rfl,e5⟩
  ·simp only[↓aN,aO,↓reduceIte,aa,ae,hl,g8,g18,g19,dc];exact⟨_,rfl,.inl ⟨aTY e1,rfl⟩⟩
  ·have gg:=KL (H:=H) (b:=b) (m:=G.length) (s:=1) (st:=.live) (y:=.int .i64 0) e5 (by decide) (by omega) (by
    intro x hx;obtain⟨j,hj,e⟩:=aTU hx;obtain⟨cs,f1,-⟩:=Gn.2 j (by omega);rw[aQP,aL5 hj,aMp,e]at f1;rw[f1];exact fun _ _=>rfl) (fun _ _=>rfl)
   simp only[↓aN,aO,↓reduceIte,aa,ae,hl,g8,g18,g19,dc,gg];exact⟨_,rfl,.inr ⟨fun h=>by rw[h]at e1;exact absurd e1 (by simp),vr,rfl,Gn.1,fun j hj=>⟨Gn.2 j hj,hw j hj⟩⟩⟩
end Go.Proofs.YtblnjkjjedanaaaGreatDoor
