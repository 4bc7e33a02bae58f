/- A part of the proof that PairChecks returns true for every input; no condition of its own. -/
import Derived.Test.YtblnjkjjedanaaaGreatDoorTao
set_option linter.all false
set_option maxHeartbeats 100000000
set_option maxRecDepth 100000
open List renaming length_append->aMf,not_mem_nil->aS7,append_assoc->aRd,mem_cons->aMc,mem_singleton->aMh,length_map->aTV,getElem?_append_left->aNq,length_cons->aMm,length_singleton->aU9,length_take->aMo,take_length->aQV,getD_eq_getElem?_getD->aQP,length_set->aO8,getElem?_eq_getElem->aL5,getElem?_cons_zero->aPa,getElem?_cons_succ->aPd,length_nil->aO9,take->aUr,getElem?_set_self->aNl,set_cons_zero->aT4
open Nat renaming le_mul_of_pos_right->aWw,zero_le->aVe,le_refl->aKR,mul_le_mul_left->aPQ,le_of_ble_eq_true->aWy,mul_le_mul_right->aLL,le_trans->aNm,pow_add->aQ3,zero_add->aLM,pow_le_pow_right->aQT,add_assoc->aKU,mul_assoc->aPv,reduceLT->aa,reduceEqDiff->ae,reduceAdd->ah,reduceLeDiff->ai,reduceMul->ak
open Int renaming mul_ne_zero->aWx,reduceLE->an,reduceLT->ao,reduceToNat->aq,reduceAdd->aA,reduceNeg->aB,reduceBEq->aD,reduceBNe->aE
open Rat renaming intCast_mul->aUo,intCast_add->aVB,intCast_sub->aVG,intCast_neg->aVy
namespace Go.Proofs.YtblnjkjjedanaaaGreatDoor
namespace X1
open Go Dv Dv.b7
variable{E:Env}[C:ou E]
instance aEL:Ctx E0 where
 fn:=rfl
 ty:=rfl
 sj:=by simp only[E0]
 pairs:=rfl
 glob:=rfl
 ov:=fun f l h=>by
  have:=afm f l h
  simp only[E0]
  exact this
 Uw:=fun f l h=>by simp only[E0]
def TwO(q0 q1 q2 q3:cz)(fJ:List Tw)(r:AV)(H:Hp):Prop:=∃cs T,H=q0::q1::q2::q3::T/\wW 24 4 r H fJ.length cs/\oE cs fJ
theorem U5{q0 q1 q2 q3:cz}{d:Int}{cl:Bool}{a0 a1 a2 b0 b1 b2 h:List UInt8}(vI:a0.length<=65536)(vH:a1.length<=65536)(vG:a2.length<=65536)(wS:b0.length<=65536)(wk:b1.length<=65536)(wh:b2.length<=65536){k l:Nat}(bd:BV k (cT 65536 a0 a1 a2))(bp:BV l (cT 65536 b0 b1 b2))(G7:k+l<=10000000000):
  ∃r H',de E 40 [bO 1 d cl a0 a1 a2 b0 b1 b2 h] [q0,q1,q2,q3]=some (r,H')/\TwO q0 q1 q2 q3 [ed (cT 65536 a0 a1 a2) (cT 65536 b0 b1 b2)] r H':=by
 obtain⟨x,hx,ix⟩:=cw (E:=E0) (s0:=a0) (s1:=a1) (s2:=a2) (by omega) (by omega) (by omega);replace hx:=tr (E:=E) rfl hx;obtain⟨y,hy,iy⟩:=cw (E:=E0) (s0:=b0) (s1:=b1) (s2:=b2) (by omega) (by omega) (by omega);replace hy:=tr (E:=E) rfl hy;obtain⟨t,ht,it⟩:=dN (E:=E0) ix iy bd bp G7;replace ht:=tr (E:=E) rfl ht;obtain⟨c,rfl,iD,vB,Es⟩:=fu it;obtain⟨jo,ji,jr,jh,kf,jY,kj,j6,kh,j7,ke,j8,rfl,-,-,-,P,O⟩:=bM ix;obtain⟨kV,k7,kW,k6,lH,lK,lG,lI,lE,lL,lC,lF,rfl,-,-,-,P1,O1⟩:=bM iy;have km:∀aL,aT E aL 70 1 [(0,AV.agg c)]=some (.aI aL 0 1 24 1,[(aL,.cells .live c)]):=fun aL=>ee fC rfl (by decide) (by decide) (by exact iD)
 have Kx:∀p q r aL,aV E [q0,q1,q2,q3,p,q,r,.cells .live c] aL .append [70,70] [.aH,.aI 7 0 1 24 1]=some (.aI aL 0 1 24 1,[(aL,.cells .live c)]):=fun p q r aL=>iQ fC (by decide) (by rfl) (by decide) iD vB (by decide)
 refine RL (by rw[C.sj]) (by rw[C.fn];exact wc) (by decide) ?_;intro ts hl g0;unfold JU bO at*;simp only[↓aN,aO,↓eH,gh,↓reduceIte,aa,ah,ae,Tryz.f40,ai,hl,g0,hx,hy,ht,P,O,P1,O1,km,Kx];exact⟨_,_,rfl,.inr ⟨by simp,_,by simp,by simp,rfl,rfl⟩,oE.one it iD⟩
theorem Ug{q0 q1 q2 q3:cz}{d:Int}{cl:Bool}{a0 a1 a2 b0 b1 b2 h:List UInt8}(vI:a0.length<=65536)(vH:a1.length<=65536)(vG:a2.length<=65536)(wS:b0.length<=65536)(wk:b1.length<=65536)(wh:b2.length<=65536){k l:Nat}(bd:BV k (cT 65536 a0 a1 a2))(bp:BV l (cT 65536 b0 b1 b2))(G7:k+l<=10000000000):
  ∃r H',de E 40 [bO 2 d cl a0 a1 a2 b0 b1 b2 h] [q0,q1,q2,q3]=some (r,H')/\TwO q0 q1 q2 q3 [kd (cT 65536 a0 a1 a2)] r H':=by
 obtain⟨x,hx,ix⟩:=cw (E:=E0) (s0:=a0) (s1:=a1) (s2:=a2) (by omega) (by omega) (by omega);replace hx:=tr (E:=E) rfl hx;obtain⟨y,hy,iy⟩:=cw (E:=E0) (s0:=b0) (s1:=b1) (s2:=b2) (by omega) (by omega) (by omega);replace hy:=tr (E:=E) rfl hy;obtain⟨t,ht,it⟩:=dU (E:=E0) ix;replace ht:=tr (E:=E) rfl ht;obtain⟨c,rfl,iD,vB,Es⟩:=fu it;obtain⟨jo,ji,jr,jh,kf,jY,kj,j6,kh,j7,ke,j8,rfl,-,-,-,P,O⟩:=bM ix;obtain⟨kV,k7,kW,k6,lH,lK,lG,lI,lE,lL,lC,lF,rfl,-,-,-,P1,O1⟩:=bM iy;have km:∀aL,aT E aL 70 1 [(0,AV.agg c)]=some (.aI aL 0 1 24 1,[(aL,.cells .live c)]):=fun aL=>ee fC rfl (by decide) (by decide) (by exact iD)
 have Kx:∀p q r aL,aV E [q0,q1,q2,q3,p,q,r,.cells .live c] aL .append [70,70] [.aH,.aI 7 0 1 24 1]=some (.aI aL 0 1 24 1,[(aL,.cells .live c)]):=fun p q r aL=>iQ fC (by decide) (by rfl) (by decide) iD vB (by decide)
 refine RL (by rw[C.sj]) (by rw[C.fn];exact wc) (by decide) ?_;intro ts hl g0;unfold JU bO at*;simp only[↓aN,aO,↓eH,gh,↓reduceIte,aa,ah,ae,Tryz.f40,ai,aD,hl,g0,hx,hy,ht,P,O,O1,km,Kx];exact⟨_,_,rfl,.inr ⟨by simp,_,by simp,by simp,rfl,rfl⟩,oE.one it iD⟩
theorem TP{q0 q1 q2 q3:cz}{d:Int}{cl:Bool}{a0 a1 a2 b0 b1 b2 h:List UInt8}(vI:a0.length<=65536)(vH:a1.length<=65536)(vG:a2.length<=65536)(wS:b0.length<=65536)(wk:b1.length<=65536)(wh:b2.length<=65536)(lh:h.length<=65536){k l q:Nat}(bq:Bq q (if cN 65536 h=0 then fh h else 0))(bd:BV k (cT 65536 a0 a1 a2))(bp:BV l (cT 65536 b0 b1 b2))(G7:k+l<=1000000000)(hq:q<=1000000000):
  ∃r H',de E 40 [bO 3 d cl a0 a1 a2 b0 b1 b2 h] [q0,q1,q2,q3]=some (r,H')/\TwO q0 q1 q2 q3 [Bs (ed (cT 65536 a0 a1 a2) (cT 65536 b0 b1 b2)) (kd (dW (if cN 65536 h=0 then fh h else 0) (cT 65536 a0 a1 a2)))] r H':=by
 obtain⟨x,hx,ix⟩:=cw (E:=E0) (s0:=a0) (s1:=a1) (s2:=a2) (by omega) (by omega) (by omega);replace hx:=tr (E:=E) rfl hx;obtain⟨y,hy,iy⟩:=cw (E:=E0) (s0:=b0) (s1:=b1) (s2:=b2) (by omega) (by omega) (by omega);replace hy:=tr (E:=E) rfl hy;obtain⟨w,hw,iw⟩:=mZ (E:=E0) (s:=h) (by omega);replace hw:=tr (E:=E) rfl hw;obtain⟨t1,Aa,N4⟩:=dN (E:=E0) ix iy bd bp (by omega);replace Aa:=tr (E:=E) rfl Aa;obtain⟨s,hs,is⟩:=kn (E:=E0) ix iw bd bq (by omega);replace hs:=tr (E:=E) rfl hs;obtain⟨t2,zy,LY⟩:=dU (E:=E0) is;replace zy:=tr (E:=E) rfl zy;have bc:=jG bp bd;have bz:BV (q+k) v0:=⟨BA.mono (by have:=bd.1.pos;omega),BA.mono (by have:=bd.1.pos;omega),BA.mono (by have:=bd.1.pos;omega)⟩;obtain⟨t,ht,it⟩:=GQ (E:=E0) N4 LY (k:=2*(l+k)+1) (l:=q+k) (bd.mono (by omega)) bc bz (BV.scale bq bd) (by omega);replace ht:=tr (E:=E) rfl ht;have pt1:=Ai N4;have pt2:=Ai LY;have ps:=ja is;obtain⟨c,rfl,iD,vB,Es⟩:=fu it;obtain⟨jo,ji,jr,jh,kf,jY,kj,j6,kh,j7,ke,j8,rfl,-,-,-,P,O⟩:=bM ix;obtain⟨kV,k7,kW,k6,lH,lK,lG,lI,lE,lL,lC,lF,rfl,-,-,-,P1,O1⟩:=bM iy;obtain⟨vw,u7,ve,vA,_,_,rfl,-,-,-,-⟩:=bX iw;have W:=aW _ iw;have km:∀aL,aT E aL 70 1 [(0,AV.agg c)]=some (.aI aL 0 1 24 1,[(aL,.cells .live c)]):=fun aL=>ee fC rfl (by decide) (by decide) (by exact iD)
 have Kx:∀p q r s aL,aV E [q0,q1,q2,q3,p,q,r,s,.cells .live c,eP] aL .append [70,70] [.aH,.aI 8 0 1 24 1]=some (.aI aL 0 1 24 1,[(aL,.cells .live c)]):=fun p q r s aL=>iQ fC (by decide) (by rfl) (by decide) iD vB (by decide)
 refine RL (by rw[C.sj]) (by rw[C.fn];exact wc) (by decide) ?_;intro ts hl g0;unfold JU bO at*;simp only[↓aN,aO,↓eH,gh,↓reduceIte,aa,ah,ae,Tryz.f40,ai,aD,hl,g0,hx,hy,ht,hw,Aa,hs,zy,pt1,pt2,ps,W,P,O,P1,O1,km,Kx];exact⟨_,_,rfl,.inr ⟨by simp,_,by simp,by simp,rfl,rfl⟩,oE.one it iD⟩
theorem Tr{q0 q1 q2 q3:cz}{d:Int}{cl:Bool}{a0 a1 a2 b0 b1 b2 h:List UInt8}(vI:a0.length<=65536)(vH:a1.length<=65536)(vG:a2.length<=65536)(wS:b0.length<=65536)(wk:b1.length<=65536)(wh:b2.length<=65536){k l:Nat}(bd:BV k (cT 65536 a0 a1 a2))(bp:BV l (cT 65536 b0 b1 b2))(G7:k+l<=10000000000):
  ∃r H',de E 40 [bO 4 d cl a0 a1 a2 b0 b1 b2 h] [q0,q1,q2,q3]=some (r,H')/\TwO q0 q1 q2 q3 [ed (cT 65536 a0 a1 a2) (cT 65536 b0 b1 b2),kd (cT 65536 a0 a1 a2)] r H':=by
 obtain⟨x,hx,ix⟩:=cw (E:=E0) (s0:=a0) (s1:=a1) (s2:=a2) (by omega) (by omega) (by omega);replace hx:=tr (E:=E) rfl hx;obtain⟨y,hy,iy⟩:=cw (E:=E0) (s0:=b0) (s1:=b1) (s2:=b2) (by omega) (by omega) (by omega);replace hy:=tr (E:=E) rfl hy;obtain⟨t,ht,it⟩:=dN (E:=E0) ix iy bd bp G7;replace ht:=tr (E:=E) rfl ht;obtain⟨c,rfl,iD,vB,Es⟩:=fu it;obtain⟨u,hu,iu⟩:=dU (E:=E0) ix;replace hu:=tr (E:=E) rfl hu;obtain⟨c',rfl,HE,Wb,aoo⟩:=fu iu;obtain⟨jo,ji,jr,jh,kf,jY,kj,j6,kh,j7,ke,j8,rfl,-,-,-,P,O⟩:=bM ix;obtain⟨kV,k7,kW,k6,lH,lK,lG,lI,lE,lL,lC,lF,rfl,-,-,-,P1,O1⟩:=bM iy;have km:∀aL,aT E aL 70 2 [(0,AV.agg c),(1,AV.agg c')]=some (.aI aL 0 2 24 2,[(aL,.cells .live (c++c'))]):=fun aL=>Yk fC rfl (by decide) (by decide) iD HE
 have Kx:∀p q r aL,aV E [q0,q1,q2,q3,p,q,r,.cells .live (c++c'),eP] aL .append [70,70] [.aH,.aI 7 0 2 24 2]=some (.aI aL 0 2 24 2,[(aL,.cells .live (c++c'))]):=fun p q r aL=>NO fC (by decide) (by decide) (by decide) (by rfl) (by decide) (by rw[aMf];omega) (by rw[List.all_append,vB,Wb];rfl) (by decide)
 refine RL (by rw[C.sj]) (by rw[C.fn];exact wc) (by decide) ?_;intro ts hl g0;unfold JU bO at*;simp only[↓aN,aO,↓eH,gh,↓reduceIte,aa,ah,ae,Tryz.f40,ai,aD,hl,g0,hx,hy,ht,hu,P,O,P1,O1,km,Kx];exact⟨_,_,rfl,.inr ⟨by simp,_,by simp,by simp,rfl,rfl⟩,oE.cons it iD (oE.one iu HE)⟩
end X1
namespace X1
open Go Dv Dv.b7
variable{E:Env}[C:ou E]
theorem U8{q0 q1 q2 q3:cz}{d:Int}{cl:Bool}{a0 a1 a2 b0 b1 b2 h:List UInt8}(vI:a0.length<=65536)(vH:a1.length<=65536)(vG:a2.length<=65536)(wS:b0.length<=65536)(wk:b1.length<=65536)(wh:b2.length<=65536){l:Nat}(bp:BV l (cT 65536 b0 b1 b2))(G7:l<=1000000000):
  ∃r H',de E 40 [bO 5 d cl a0 a1 a2 b0 b1 b2 h] [q0,q1,q2,q3]=some (r,H')/\TwO q0 q1 q2 q3 [ed Dy (cT 65536 b0 b1 b2),ed G4 (cT 65536 b0 b1 b2),ed G1 (cT 65536 b0 b1 b2)] r H':=by
 obtain⟨x,hx,ix⟩:=cw (E:=E0) (s0:=a0) (s1:=a1) (s2:=a2) (by omega) (by omega) (by omega);replace hx:=tr (E:=E) rfl hx;obtain⟨y,hy,iy⟩:=cw (E:=E0) (s0:=b0) (s1:=b1) (s2:=b2) (by omega) (by omega) (by omega);replace hy:=tr (E:=E) rfl hy;obtain⟨un,HU,zk,zh,zd,zA,Cx,Cu,CQ,CI,CL,Ce,Cl,BR,CA,BH,BO,CX,Dc,BX,Ca,CE,Cc,BE,Cw,BJ,vw,u7,ve,vA,yH,yS,yF,yC,yn,yB,yt,yR,rfl,iu,iv,iw⟩:=qR (E:=E0);replace HU:=tr (E:=E) rfl HU;have U:=bP iu;have V':=bP iv;have W:=bP iw;have Ue:fD true 12 [.bool zk,zh,.bool zd,zA,.bool Cx,Cu,.bool CQ,CI,.bool CL,Ce,.bool Cl,BR,.bool CA,BH,.bool BO,CX,.bool Dc,BX,.bool Ca,CE,.bool Cc,BE,.bool Cw,BJ,.bool vw,u7,.bool ve,vA,.bool yH,yS,.bool yF,yC,.bool yn,yB,.bool yt,yR] 0=some (.agg [.bool zk,zh,.bool zd,zA,.bool Cx,Cu,.bool CQ,CI,.bool CL,Ce,.bool Cl,BR]):=rfl;have QI:fD true 12 [.bool zk,zh,.bool zd,zA,.bool Cx,Cu,.bool CQ,CI,.bool CL,Ce,.bool Cl,BR,.bool CA,BH,.bool BO,CX,.bool Dc,BX,.bool Ca,CE,.bool Cc,BE,.bool Cw,BJ,.bool vw,u7,.bool ve,vA,.bool yH,yS,.bool yF,yC,.bool yn,yB,.bool yt,yR] 12=some (.agg [.bool CA,BH,.bool BO,CX,.bool Dc,BX,.bool Ca,CE,.bool Cc,BE,.bool Cw,BJ]):=rfl;have Sn:fD true 12 [.bool zk,zh,.bool zd,zA,.bool Cx,Cu,.bool CQ,CI,.bool CL,Ce,.bool Cl,BR,.bool CA,BH,.bool BO,CX,.bool Dc,BX,.bool Ca,CE,.bool Cc,BE,.bool Cw,BJ,.bool vw,u7,.bool ve,vA,.bool yH,yS,.bool yF,yC,.bool yn,yB,.bool yt,yR] 24=some (.agg [.bool vw,u7,.bool ve,vA,.bool yH,yS,.bool yF,yC,.bool yn,yB,.bool yt,yR]):=rfl;obtain⟨t0,Ie,NB⟩:=dN (E:=E0) (d:=Dy) iu iy kC.1 bp (by omega);replace Ie:=tr (E:=E) rfl Ie;obtain⟨c0,rfl,rL,Gj,aac⟩:=fu NB;obtain⟨t1,Aa,N4⟩:=dN (E:=E0) (d:=G4) iv iy kC.2.1 bp (by omega);replace Aa:=tr (E:=E) rfl Aa;obtain⟨c1,rfl,zG,PY,aiz⟩:=fu N4;obtain⟨t2,zy,LY⟩:=dN (E:=E0) (d:=G1) iw iy kC.2.2 bp (by omega);replace zy:=tr (E:=E) rfl zy;obtain⟨c2,rfl,yQ,Qe,agC⟩:=fu LY;obtain⟨jo,ji,jr,jh,kf,jY,kj,j6,kh,j7,ke,j8,rfl,-,-,-,P,O⟩:=bM ix;obtain⟨kV,k7,kW,k6,lH,lK,lG,lI,lE,lL,lC,lF,rfl,-,-,-,P1,O1⟩:=bM iy;have Gr:∀aL,aT E aL 70 1 [(0,AV.agg c0)]=some (.aI aL 0 1 24 1,[(aL,.cells .live c0)]):=fun aL=>ee fC rfl (by decide) (by decide) rL
 have Hs:∀aL,aT E aL 70 1 [(0,AV.agg c1)]=some (.aI aL 0 1 24 1,[(aL,.cells .live c1)]):=fun aL=>ee fC rfl (by decide) (by decide) zG
 have Kb:∀aL,aT E aL 70 1 [(0,AV.agg c2)]=some (.aI aL 0 1 24 1,[(aL,.cells .live c2)]):=fun aL=>ee fC rfl (by decide) (by decide) yQ
 have C1:oE c0 [ed Dy (cT 65536 b0 b1 b2)]:=oE.one NB rL;have C2:=C1.app N4 zG;have C3:=C2.app LY yQ;have L1:=C1.len;have L2:=C2.len;have L3:=C3.len;simp only[aMm,aO9,aMf,aLM,ah,ak]at L1 L2 L3;have Ff:∀y0 y1 y2 y3 aL,aV E [q0,q1,q2,q3,y0,y1,y2,y3,.cells .live c0] aL .append [70,70] [.aH,.aI 8 0 1 24 1]=some (.aI aL 0 1 24 1,[(aL,.cells .live c0)]):=fun y0 y1 y2 y3 aL=>iQ fC (by decide) (by rfl) (by decide) rL Gj (by decide)
 have O9:∀y0 y1 y2 y3 y4 y6 aL,aV E [q0,q1,q2,q3,y0,y1,y2,y3,y4,.cells .live c0,y6,.cells .live c1] aL .append [70,70] [.aI 9 0 1 24 1,.aI 11 0 1 24 1]=some (.aI aL 0 2 24 2,[(9,.cells .dead []),(aL,.cells .live (c0++c1))]):=fun y0 y1 y2 y3 y4 y6 aL=>np fC (by decide) (by decide) (by rfl) (by first|omega|(simp only[aMf];omega)) (st:=.live) (by rfl) (by decide) zG PY (by decide) (by decide)
 have Qo:∀y0 y1 y2 y3 y4 y5 y6 y7 y9 aL,aV E [q0,q1,q2,q3,y0,y1,y2,y3,y4,y5,y6,y7,.cells .live (c0++c1),y9,.cells .live c2] aL .append [70,70] [.aI 12 0 2 24 2,.aI 14 0 1 24 1]=some (.aI aL 0 3 24 3,[(12,.cells .dead []),(aL,.cells .live ((c0++c1)++c2))]):=fun y0 y1 y2 y3 y4 y5 y6 y7 y9 aL=>np fC (by decide) (by decide) (by rfl) (by first|omega|(simp only[aMf];omega)) (st:=.live) (by rfl) (by decide) yQ Qe (by decide) (by decide)
 refine RL (by rw[C.sj]) (by rw[C.fn];exact wc) (by decide) ?_;intro ts hl g0;unfold JU bO at*;simp only[↓aN,aO,↓eH,gh,↓reduceIte,aa,ah,ae,Tryz.f40,ai,aD,hl,g0,hx,hy,O,O1,HU];refine ew 4 ?_;simp only[↓aN,aO,↓eH,gh,↓reduceIte,aa,ah,ak,ae,an,ao,aq,aA,hl,P1,U,V',W,Ue,QI,Sn,uj,zZ,ED,kI,HU,Ie,Gr,Ff,Aa,Hs,O9,zy,Kb,Qo];refine ew 4 ?_;simp only[↓aN,aO,gh,↓reduceIte,aa,ah,ak,ae,an,ao,aq,aA,aD,hl,U,V',W,Ue,QI,Sn,uj,zZ,ED];exact⟨_,_,rfl,.inr ⟨by simp,_,by simp,by simp,rfl,rfl⟩,C3⟩
theorem T6{q0 q1 q2 q3:cz}{d:Int}{cl:Bool}{a0 a1 a2 b0 b1 b2 h:List UInt8}(vI:a0.length<=65536)(vH:a1.length<=65536)(vG:a2.length<=65536)(wS:b0.length<=65536)(wk:b1.length<=65536)(wh:b2.length<=65536){l:Nat}(bp:BV l (cT 65536 b0 b1 b2))(G7:l<=1000000000):
  ∃r H',de E 40 [bO 7 d cl a0 a1 a2 b0 b1 b2 h] [q0,q1,q2,q3]=some (r,H')/\TwO q0 q1 q2 q3 [ed Dy (cT 65536 b0 b1 b2),ed G4 (cT 65536 b0 b1 b2),ed G1 (cT 65536 b0 b1 b2),kd Dy,kd G4,kd G1] r H':=by
 obtain⟨x,hx,ix⟩:=cw (E:=E0) (s0:=a0) (s1:=a1) (s2:=a2) (by omega) (by omega) (by omega);replace hx:=tr (E:=E) rfl hx;obtain⟨y,hy,iy⟩:=cw (E:=E0) (s0:=b0) (s1:=b1) (s2:=b2) (by omega) (by omega) (by omega);replace hy:=tr (E:=E) rfl hy;obtain⟨un,HU,zk,zh,zd,zA,Cx,Cu,CQ,CI,CL,Ce,Cl,BR,CA,BH,BO,CX,Dc,BX,Ca,CE,Cc,BE,Cw,BJ,vw,u7,ve,vA,yH,yS,yF,yC,yn,yB,yt,yR,rfl,iu,iv,iw⟩:=qR (E:=E0);replace HU:=tr (E:=E) rfl HU;have U:=bP iu;have V':=bP iv;have W:=bP iw;have Ue:fD true 12 [.bool zk,zh,.bool zd,zA,.bool Cx,Cu,.bool CQ,CI,.bool CL,Ce,.bool Cl,BR,.bool CA,BH,.bool BO,CX,.bool Dc,BX,.bool Ca,CE,.bool Cc,BE,.bool Cw,BJ,.bool vw,u7,.bool ve,vA,.bool yH,yS,.bool yF,yC,.bool yn,yB,.bool yt,yR] 0=some (.agg [.bool zk,zh,.bool zd,zA,.bool Cx,Cu,.bool CQ,CI,.bool CL,Ce,.bool Cl,BR]):=rfl;have QI:fD true 12 [.bool zk,zh,.bool zd,zA,.bool Cx,Cu,.bool CQ,CI,.bool CL,Ce,.bool Cl,BR,.bool CA,BH,.bool BO,CX,.bool Dc,BX,.bool Ca,CE,.bool Cc,BE,.bool Cw,BJ,.bool vw,u7,.bool ve,vA,.bool yH,yS,.bool yF,yC,.bool yn,yB,.bool yt,yR] 12=some (.agg [.bool CA,BH,.bool BO,CX,.bool Dc,BX,.bool Ca,CE,.bool Cc,BE,.bool Cw,BJ]):=rfl;have Sn:fD true 12 [.bool zk,zh,.bool zd,zA,.bool Cx,Cu,.bool CQ,CI,.bool CL,Ce,.bool Cl,BR,.bool CA,BH,.bool BO,CX,.bool Dc,BX,.bool Ca,CE,.bool Cc,BE,.bool Cw,BJ,.bool vw,u7,.bool ve,vA,.bool yH,yS,.bool yF,yC,.bool yn,yB,.bool yt,yR] 24=some (.agg [.bool vw,u7,.bool ve,vA,.bool yH,yS,.bool yF,yC,.bool yn,yB,.bool yt,yR]):=rfl;obtain⟨t0,Ie,NB⟩:=dN (E:=E0) (d:=Dy) iu iy kC.1 bp (by omega);replace Ie:=tr (E:=E) rfl Ie;obtain⟨c0,rfl,rL,Gj,aac⟩:=fu NB;obtain⟨t1,Aa,N4⟩:=dN (E:=E0) (d:=G4) iv iy kC.2.1 bp (by omega);replace Aa:=tr (E:=E) rfl Aa;obtain⟨c1,rfl,zG,PY,aiz⟩:=fu N4;obtain⟨t2,zy,LY⟩:=dN (E:=E0) (d:=G1) iw iy kC.2.2 bp (by omega);replace zy:=tr (E:=E) rfl zy;obtain⟨c2,rfl,yQ,Qe,agC⟩:=fu LY;obtain⟨t3,ht3,it3⟩:=dU (E:=E0) (d:=Dy) iu;replace ht3:=tr (E:=E) rfl ht3;obtain⟨c3,rfl,Qx,akC,azb⟩:=fu it3;obtain⟨t4,ht4,it4⟩:=dU (E:=E0) (d:=G4) iv;replace ht4:=tr (E:=E) rfl ht4;obtain⟨c4,rfl,Qq,aiK,avy⟩:=fu it4;obtain⟨t5,ht5,it5⟩:=dU (E:=E0) (d:=G1) iw;replace ht5:=tr (E:=E) rfl ht5;obtain⟨c5,rfl,QA,agT,azS⟩:=fu it5;obtain⟨jo,ji,jr,jh,kf,jY,kj,j6,kh,j7,ke,j8,rfl,-,-,-,P,O⟩:=bM ix;obtain⟨kV,k7,kW,k6,lH,lK,lG,lI,lE,lL,lC,lF,rfl,-,-,-,P1,O1⟩:=bM iy;have Gr:∀aL,aT E aL 70 1 [(0,AV.agg c0)]=some (.aI aL 0 1 24 1,[(aL,.cells .live c0)]):=fun aL=>ee fC rfl (by decide) (by decide) rL
 have Hs:∀aL,aT E aL 70 1 [(0,AV.agg c1)]=some (.aI aL 0 1 24 1,[(aL,.cells .live c1)]):=fun aL=>ee fC rfl (by decide) (by decide) zG
 have Kb:∀aL,aT E aL 70 1 [(0,AV.agg c2)]=some (.aI aL 0 1 24 1,[(aL,.cells .live c2)]):=fun aL=>ee fC rfl (by decide) (by decide) yQ
 have ajf:∀aL,aT E aL 70 1 [(0,AV.agg c3)]=some (.aI aL 0 1 24 1,[(aL,.cells .live c3)]):=fun aL=>ee fC rfl (by decide) (by decide) Qx
 have aiO:∀aL,aT E aL 70 1 [(0,AV.agg c4)]=some (.aI aL 0 1 24 1,[(aL,.cells .live c4)]):=fun aL=>ee fC rfl (by decide) (by decide) Qq
 have ajN:∀aL,aT E aL 70 1 [(0,AV.agg c5)]=some (.aI aL 0 1 24 1,[(aL,.cells .live c5)]):=fun aL=>ee fC rfl (by decide) (by decide) QA
 have C1:oE c0 [ed Dy (cT 65536 b0 b1 b2)]:=oE.one NB rL;have C2:=C1.app N4 zG;have C3:=C2.app LY yQ;have C4:=C3.app it3 Qx;have C5:=C4.app it4 Qq;have C6:=C5.app it5 QA;have L1:=C1.len;have L2:=C2.len;have L3:=C3.len;have L4:=C4.len;have L5:=C5.len;have L6:=C6.len;simp only[aMm,aO9,aMf,aLM,ah,ak]at L1 L2 L3 L4 L5 L6;have Ff:∀y0 y1 y2 y3 aL,aV E [q0,q1,q2,q3,y0,y1,y2,y3,.cells .live c0] aL .append [70,70] [.aH,.aI 8 0 1 24 1]=some (.aI aL 0 1 24 1,[(aL,.cells .live c0)]):=fun y0 y1 y2 y3 aL=>iQ fC (by decide) (by rfl) (by decide) rL Gj (by decide)
 have O9:∀y0 y1 y2 y3 y4 y6 aL,aV E [q0,q1,q2,q3,y0,y1,y2,y3,y4,.cells .live c0,y6,.cells .live c1] aL .append [70,70] [.aI 9 0 1 24 1,.aI 11 0 1 24 1]=some (.aI aL 0 2 24 2,[(9,.cells .dead []),(aL,.cells .live (c0++c1))]):=fun y0 y1 y2 y3 y4 y6 aL=>np fC (by decide) (by decide) (by rfl) (by first|omega|(simp only[aMf];omega)) (st:=.live) (by rfl) (by decide) zG PY (by decide) (by decide)
 have Qo:∀y0 y1 y2 y3 y4 y5 y6 y7 y9 aL,aV E [q0,q1,q2,q3,y0,y1,y2,y3,y4,y5,y6,y7,.cells .live (c0++c1),y9,.cells .live c2] aL .append [70,70] [.aI 12 0 2 24 2,.aI 14 0 1 24 1]=some (.aI aL 0 3 24 3,[(12,.cells .dead []),(aL,.cells .live ((c0++c1)++c2))]):=fun y0 y1 y2 y3 y4 y5 y6 y7 y9 aL=>np fC (by decide) (by decide) (by rfl) (by first|omega|(simp only[aMf];omega)) (st:=.live) (by rfl) (by decide) yQ Qe (by decide) (by decide)
 have ajx:∀y0 y1 y2 y3 y4 y5 y6 y7 y8 y9 F4 FH aL,aV E [q0,q1,q2,q3,y0,y1,y2,y3,y4,y5,y6,y7,y8,y9,F4,.cells .live ((c0++c1)++c2),FH,.cells .live c3] aL .append [70,70] [.aI 15 0 3 24 3,.aI 17 0 1 24 1]=some (.aI aL 0 4 24 4,[(15,.cells .dead []),(aL,.cells .live (((c0++c1)++c2)++c3))]):=fun y0 y1 y2 y3 y4 y5 y6 y7 y8 y9 F4 FH aL=>np fC (by decide) (by decide) (by rfl) (by first|omega|(simp only[aMf];omega)) (st:=.live) (by rfl) (by decide) Qx akC (by decide) (by decide)
 have agL:∀y0 y1 y2 y3 y4 y5 y6 y7 y8 y9 F4 Sm FH M9 R7 aL,aV E [q0,q1,q2,q3,y0,y1,y2,y3,y4,y5,y6,y7,y8,y9,F4,Sm,FH,M9,.cells .live (((c0++c1)++c2)++c3),R7,.cells .live c4] aL .append [70,70] [.aI 18 0 4 24 4,.aI 20 0 1 24 1]=some (.aI aL 0 5 24 5,[(18,.cells .dead []),(aL,.cells .live ((((c0++c1)++c2)++c3)++c4))]):=fun y0 y1 y2 y3 y4 y5 y6 y7 y8 y9 F4 Sm FH M9 R7 aL=>np fC (by decide) (by decide) (by rfl) (by first|omega|(simp only[aMf];omega)) (st:=.live) (by rfl) (by decide) Qq aiK (by decide) (by decide)
 have ajB:∀y0 y1 y2 y3 y4 y5 y6 y7 y8 y9 F4 Sm FH M9 Wy R7 y16 y18 aL,aV E [q0,q1,q2,q3,y0,y1,y2,y3,y4,y5,y6,y7,y8,y9,F4,Sm,FH,M9,Wy,R7,y16,.cells .live ((((c0++c1)++c2)++c3)++c4),y18,.cells .live c5] aL .append [70,70] [.aI 21 0 5 24 5,.aI 23 0 1 24 1]=some (.aI aL 0 6 24 6,[(21,.cells .dead []),(aL,.cells .live (((((c0++c1)++c2)++c3)++c4)++c5))]):=fun y0 y1 y2 y3 y4 y5 y6 y7 y8 y9 F4 Sm FH M9 Wy R7 y16 y18 aL=>np fC (by decide) (by decide) (by rfl) (by first|omega|(simp only[aMf];omega)) (st:=.live) (by rfl) (by decide) QA agT (by decide) (by decide)
 refine RL (by rw[C.sj]) (by rw[C.fn];exact wc) (by decide) ?_;intro ts hl g0;unfold JU bO at*;simp only[↓aN,aO,↓eH,gh,↓reduceIte,aa,ah,ae,Tryz.f40,ai,aD,hl,g0,hx,hy,O,O1,HU];refine ew 4 ?_;simp only[↓aN,aO,↓eH,gh,↓reduceIte,aa,ah,ak,ae,an,ao,aq,aA,hl,P1,U,V',W,Ue,QI,Sn,uj,zZ,ED,kI,HU,Ie,Gr,Ff,Aa,Hs,O9,zy,Kb,Qo];refine ew 4 ?_;simp only[↓aN,aO,↓eH,gh,↓reduceIte,aa,ah,ak,ae,an,ao,aq,aA,hl,U,V',W,Ue,QI,Sn,uj,zZ,ED,kI,ht3,ajf,ajx,ht4,aiO,agL,ht5,ajN,ajB];exact⟨_,_,rfl,.inr ⟨by simp,_,by simp,by simp,rfl,rfl⟩,C6⟩
end X1
namespace X1
open Go Dv Dv.b7
variable{E:Env}[C:ou E]
theorem az0{q0 q1 q2 q3:cz}{H:Hp}(h:∀j,j<4->H[j]?=[q0,q1,q2,q3][j]?):∃T,H=q0::q1::q2::q3::T:=by
 have h0:=h 0 (by omega);have h1:=h 1 (by omega);have h2:=h 2 (by omega);have h3:=h 3 (by omega)
 match H,h0,h1,h2,h3 with
 |a::b::c::d::T,h0,h1,h2,h3=>
  simp only[aPa,aPd,Option.some.injEq]at h0 h1 h2 h3;exact⟨T,by rw[h0,h1,h2,h3]⟩
 |[],h0,_,_,_=>simp at h0
 |[_],_,h1,_,_=>simp at h1
 |[_,_],_,_,h2,_=>simp at h2
 |[_,_,_],_,_,_,h3=>simp at h3
theorem Uc{q0 q1 q2 q3:cz}{d:Int}{cl:Bool}{a0 a1 a2 b0 b1 b2 h:List UInt8}(vI:a0.length<=65536)(vH:a1.length<=65536)(vG:a2.length<=65536)(wS:b0.length<=65536)(wk:b1.length<=65536)(wh:b2.length<=65536){k:Nat}(bd:BV k (cT 65536 a0 a1 a2))(G7:k<=1000000000):
  ∃r H',de E 40 [bO 6 d cl a0 a1 a2 b0 b1 b2 h] [q0,q1,q2,q3]=some (r,H')/\∃ts,TwO q0 q1 q2 q3 ts r H'/\SP (cT 65536 a0 a1 a2) ts:=by
 obtain⟨x,hx,ix⟩:=cw (E:=E0) (s0:=a0) (s1:=a1) (s2:=a2) (by omega) (by omega) (by omega);replace hx:=tr (E:=E) rfl hx;obtain⟨y,hy,iy⟩:=cw (E:=E0) (s0:=b0) (s1:=b1) (s2:=b2) (by omega) (by omega) (by omega);replace hy:=tr (E:=E) rfl hy;obtain⟨D,hD⟩:∃D,D=cT 65536 a0 a1 a2:=⟨_,rfl⟩;rw[<-hD]at ix bd⊢;obtain⟨un,HU,zk,zh,zd,zA,Cx,Cu,CQ,CI,CL,Ce,Cl,BR,CA,BH,BO,CX,Dc,BX,Ca,CE,Cc,BE,Cw,BJ,vw,u7,ve,vA,yH,yS,yF,yC,yn,yB,yt,yR,rfl,iu,iv,iw⟩:=qR (E:=E0);replace HU:=tr (E:=E) rfl HU;have U:=bP iu;have V':=bP iv;have W:=bP iw;have bz:BV 1 v0:=⟨BA,BA,BA⟩;obtain⟨t0,Ie,NB⟩:=dN (E:=E0) ix vC bd bz (by omega);replace Ie:=tr (E:=E) rfl Ie;obtain⟨c0,rfl,rL,Gj,aac⟩:=fu NB;obtain⟨jo,ji,jr,jh,kf,jY,kj,j6,kh,j7,ke,j8,rfl,-,-,-,P,O⟩:=bM ix;obtain⟨kV,k7,kW,k6,lH,lK,lG,lI,lE,lL,lC,lF,rfl,-,-,-,P1,O1⟩:=bM iy;have Gr:∀aL,aT E aL 70 1 [(0,AV.agg c0)]=some (.aI aL 0 1 24 1,[(aL,.cells .live c0)]):=fun aL=>ee fC rfl (by decide) (by decide) rL
 have Ff:∀p q r aL,aV E [q0,q1,q2,q3,p,q,r,.cells .live c0] aL .append [70,70] [.aH,.aI 7 0 1 24 1]=some (.aI aL 0 1 24 1,[(aL,.cells .live c0)]):=fun p q r aL=>iQ fC (by decide) (by rfl) (by decide) rL Gj (by decide)
 have Dz:∀i,i<3->∃yL yq yM yo yw yO yx ym yr yN yD yK,fD true 12 [.bool zk,zh,.bool zd,zA,.bool Cx,Cu,.bool CQ,CI,.bool CL,Ce,.bool Cl,BR,.bool CA,BH,.bool BO,CX,.bool Dc,BX,.bool Ca,CE,.bool Cc,BE,.bool Cw,BJ,.bool vw,u7,.bool ve,vA,.bool yH,yS,.bool yF,yC,.bool yn,yB,.bool yt,yR] (i*12)=some (.agg [.bool yL,yq,.bool yM,yo,.bool yw,yO,.bool yx,ym,.bool yr,yN,.bool yD,yK])/\eY (.agg [.bool yL,yq,.bool yM,yo,.bool yw,yO,.bool yx,ym,.bool yr,yN,.bool yD,yK]) (eV i):=by
  intro i hi
  match i,hi with
  |0,_=>exact⟨zk,zh,zd,zA,Cx,Cu,CQ,CI,CL,Ce,Cl,BR,rfl,iu⟩
  |1,_=>exact⟨CA,BH,BO,CX,Dc,BX,Ca,CE,Cc,BE,Cw,BJ,rfl,iv⟩
  |2,_=>exact⟨vw,u7,ve,vA,yH,yS,yF,yC,yn,yB,yt,yR,rfl,iw⟩
 refine RL (by rw[C.sj]) (by rw[C.fn];exact wc) (by decide) ?_;intro ts hl g0;unfold JU bO at*;simp only[↓aN,aO,↓eH,gh,↓reduceIte,aa,ah,ae,Tryz.f40,ai,aD,hl,g0,hx,hy,P,O,O1,HU,Ie,Gr,Ff];refine ft (fun k_ ts H=>∃i v HC m cs rest,k_=3-i/\ts.length=146/\gt ts 3=.b9 5 0/\gt ts 7=v/\gt ts 110=.agg [.bool zk,zh,.bool zd,zA,.bool Cx,Cu,.bool CQ,CI,.bool CL,Ce,.bool Cl,BR,.bool CA,BH,.bool BO,CX,.bool Dc,BX,.bool Ca,CE,.bool Cc,BE,.bool Cw,BJ,.bool vw,u7,.bool ve,vA,.bool yH,yS,.bool yF,yC,.bool yn,yB,.bool yt,yR]/\gt ts 111=.int .i64 (i:Int)/\H=HC/\(i<=3)/\(7<=HC.length)/\(∀j,j<4->HC[j]?=[q0,q1,q2,q3][j]?)/\(HC[5]?=some (.cells .live [.bool jo,ji,.bool jr,jh,.bool kf,jY,.bool kj,j6,.bool kh,j7,.bool ke,j8]))/\(wW 24 7 v HC m cs)/\(m=rest.length+1/\rest.length<=2)/\(oE cs (ed D v0::rest))/\(∀t∈rest,∃j,t=kd (dH D (eV j)))) (3) ?_ ?_
 rotate_left
 ·refine⟨0,(.aI 8 0 1 24 1),[q0,q1,q2,q3,.cells .live [.int .i64 6,.int .i64 d,.bool cl,.str a0,.str a1,.str a2,.str b0,.str b1,.str b2,.str h],.cells .live [.bool jo,ji,.bool jr,jh,.bool kf,jY,.bool kj,j6,.bool kh,j7,.bool ke,j8],.cells .live [.bool kV,k7,.bool kW,k6,.bool lH,lK,.bool lG,lI,.bool lE,lL,.bool lC,lF],.cells .live c0,.cells .live c0],1,c0,[],(by first|omega|rfl|(simp;done)),(by simp only[cP,hl]),?_⟩;simp only[cR,hl,aa,ae]
  iterate 5 refine⟨by first|trivial|rfl|(congr 1;omega)|(simp;done)|(simp;omega),?_⟩
  refine⟨?_,?_,?_,?_,?_,?_,?_,?_⟩
  ·omega
  ·simp
  ·intro j hj;match j,hj with|0,_=>rfl|1,_=>rfl|2,_=>rfl|3,_=>rfl
  ·rfl
  ·exact .inr ⟨by omega,8,by omega,by simp,rfl,rfl⟩
  ·exact⟨rfl,by simp⟩
  ·exact oE.one NB rL
  ·simp
 clear hl g0 ts;rintro k_ ts H ⟨i,v,HC,m,cs,rest,rfl,hl,g3,g7,tb,CU,rfl,hi,hCl,hQ,OH,pV,hm,hT,jn⟩;refine VS ?_;have c1:=fun l o=>lU (T:=H) (l:=l) (o:=o) (show 5<H.length by omega)
 have YO:=fun n l o=>pC (T:=H) (n:=n) (l:=l) (o:=o) (show 5<H.length by omega)
 have Wt:=fun n o=>pk (n:=n) (o:=o) OH (by decide)
 obtain⟨s8,vN⟩:=hm;have Fy:k9 v=some (m:Int):=by rcases pV with⟨h0,-,-⟩|⟨-,b,-,-,rfl,-⟩;omega;rfl
 by_cases hd:i<3
 ·have dc:decide ((i:Int)<3)=true:=b8 (by omega);have mM:((i:Int)<3)=True:=eq_true (by omega);have w1:aX .i64 ((i:Int)+1)=((i+1:Nat):Int):=by rw[wrap_i64 (by omega) (by omega)];omega
  obtain⟨yL,yq,yM,yo,yw,yO,yx,ym,yr,yN,yD,yK,pz,iz⟩:=Dz i hd;have Z:=bP iz;obtain⟨q,hq,iq⟩:=oJ (E:=E0) ix iz bd (Uk i) (by omega);replace hq:=tr (E:=E) rfl hq;have bq:=jG bd (Uk i);have QK:=gH (E:=E0) iq bq (by omega);replace QK:=tr (E:=E) rfl QK;obtain⟨t,ht,it⟩:=dU (E:=E0) iq;replace ht:=tr (E:=E) rfl ht;obtain⟨c,rfl,iD,vB,Es⟩:=fu it;obtain⟨zO,zK,zI,zQ,Lb,K8,Le,Ll,Lq,Ld,Lh,Lp,rfl,-,-,-,PQ,OQ⟩:=bM iq;have Q:=bP iq;have skip:∀q1 q2:cz,∀(dx:List AV),True:=fun _ _ _=>trivial
  have hK1:7<=(H++[cz.cells gu.live [.bool yL,yq,.bool yM,yo,.bool yw,yO,.bool yx,ym,.bool yr,yN,.bool yD,yK],cz.cells gu.live [.bool zO,zK,.bool zI,zQ,.bool Lb,K8,.bool Le,Ll,.bool Lq,Ld,.bool Lh,Lp]]).length:=by rw[aMf];omega
  have Xq:(H++[cz.cells gu.live [.bool yL,yq,.bool yM,yo,.bool yw,yO,.bool yx,ym,.bool yr,yN,.bool yD,yK],cz.cells gu.live [.bool zO,zK,.bool zI,zQ,.bool Lb,K8,.bool Le,Ll,.bool Lq,Ld,.bool Lh,Lp]])[5]?=some (.cells .live [.bool jo,ji,.bool jr,jh,.bool kf,jY,.bool kj,j6,.bool kh,j7,.bool ke,j8]):=by rw[aNq (by omega)];exact OH
  have PT:wW 24 7 v (H++[cz.cells gu.live [.bool yL,yq,.bool yM,yo,.bool yw,yO,.bool yx,ym,.bool yr,yN,.bool yD,yK],cz.cells gu.live [.bool zO,zK,.bool zI,zQ,.bool Lb,K8,.bool Le,Ll,.bool Lq,Ld,.bool Lh,Lp]]) m cs:=qz pV;have hKQ:∀j,j<4->(H++[cz.cells gu.live [.bool yL,yq,.bool yM,yo,.bool yw,yO,.bool yx,ym,.bool yr,yN,.bool yD,yK],cz.cells gu.live [.bool zO,zK,.bool zI,zQ,.bool Lb,K8,.bool Le,Ll,.bool Lq,Ld,.bool Lh,Lp]])[j]?=[q0,q1,q2,q3][j]?:=by intro j hj;rw[aNq (by omega)];exact hQ j hj
  by_cases JQ:m<3
  rotate_left
  ·have d3:decide ((m:Int)<3)=false:=cg (by omega);simp only[↓aN,aO,dJ,↓eH,gh,↓reduceIte,aa,ah,ae,hl,g3,g7,tb,CU,mM,w1,pz,Z,Q,P,hq,YO,Wt,Fy,d3,aRd,aMf];refine dG ?_;refine⟨_,?_,i+1,v,(H++[cz.cells gu.live [.bool yL,yq,.bool yM,yo,.bool yw,yO,.bool yx,ym,.bool yr,yN,.bool yD,yK],cz.cells gu.live [.bool zO,zK,.bool zI,zQ,.bool Lb,K8,.bool Le,Ll,.bool Lq,Ld,.bool Lh,Lp]]),m,cs,rest,rfl,(by simp only[cP,hl]),?_⟩
   ·first|omega|(simp;omega)
   simp only[cR,hl,aa,ae,g3,g7,tb]
   iterate 5 refine⟨by first|trivial|rfl|(congr 1;omega)|(simp;done)|(simp;omega),?_⟩
   refine⟨?_,?_,?_,?_,?_,?_,?_,?_⟩
   ·omega
   ·exact hK1
   ·exact hKQ
   ·exact Xq
   ·exact PT
   ·exact⟨s8,vN⟩
   ·exact hT
   ·exact jn
  have d3:decide ((m:Int)<3)=true:=b8 (by omega);by_cases nM:dH D (eV i)=v0
  ·rw[b8 nM]at QK;simp only[↓aN,aO,dJ,↓eH,gh,↓reduceIte,aa,ah,ae,hl,g3,g7,tb,CU,mM,w1,pz,Z,Q,P,hq,YO,Wt,Fy,d3,QK,aRd,aMf];refine dG ?_;refine⟨_,?_,i+1,v,(H++[cz.cells gu.live [.bool yL,yq,.bool yM,yo,.bool yw,yO,.bool yx,ym,.bool yr,yN,.bool yD,yK],cz.cells gu.live [.bool zO,zK,.bool zI,zQ,.bool Lb,K8,.bool Le,Ll,.bool Lq,Ld,.bool Lh,Lp]]),m,cs,rest,rfl,(by simp only[cP,hl]),?_⟩
   ·first|omega|(simp;omega)
   simp only[cR,hl,aa,ae,g3,g7,tb]
   iterate 5 refine⟨by first|trivial|rfl|(congr 1;omega)|(simp;done)|(simp;omega),?_⟩
   refine⟨?_,?_,?_,?_,?_,?_,?_,?_⟩
   ·omega
   ·exact hK1
   ·exact hKQ
   ·exact Xq
   ·exact PT
   ·exact⟨s8,vN⟩
   ·exact hT
   ·exact jn
  rw[cg nM]at QK;have JC:(H++[cz.cells gu.live [.bool yL,yq,.bool yM,yo,.bool yw,yO,.bool yx,ym,.bool yr,yN,.bool yD,yK],cz.cells gu.live [.bool zO,zK,.bool zI,zQ,.bool Lb,K8,.bool Le,Ll,.bool Lq,Ld,.bool Lh,Lp]]).length=H.length+2:=by rw[aMf];rfl
  have V8:=hT.len;obtain⟨bU,H2,iR,Ac,t1,t2,t3⟩:=lQ (E:=E) (x:=c) fC (by decide) (AZ PT) (by rw[V8,aMm,s8]) iD vB (by unfold gO;omega) (by omega);rw[JC]at iR t1 t2 t3;simp only[aRd,List.cons_append,List.nil_append,aMf,aMm,aO9,aLM,ah]at iR Ac;have km:∀aL,aT E aL 70 1 [(0,AV.agg c)]=some (.aI aL 0 1 24 1,[(aL,.cells .live c)]):=fun aL=>ee fC rfl (by decide) (by decide) iD
  by_cases hme:m=1
  ·have e1:((m:Int)==1)=true:=by rw[hme];rfl
   simp only[↓aN,aO,dJ,↓eH,gh,↓reduceIte,aa,ah,ae,hl,g3,g7,tb,CU,mM,w1,pz,Z,Q,P,hq,YO,Wt,Fy,d3,QK,e1,ht,km,iR,Ac,aKU,aRd,aMf];refine dG ?_;refine⟨_,?_,i+1,(.aI (H.length+3) 0 (m+1) 24 (m+1)),H2,(m+1),(cs++c),(rest++[kd (dH D (eV i))]),rfl,(by simp only[cP,hl]),?_⟩
   ·first|omega|(simp;omega)
   simp only[cR,hl,aa,ae,g3,tb]
   iterate 5 refine⟨by first|trivial|rfl|(congr 1;omega)|(simp;done)|(simp;omega),?_⟩
   refine⟨?_,?_,?_,?_,?_,?_,?_,?_⟩
   ·omega
   ·omega
   ·intro j hj;rw[t3 j (by omega) (oP PT (by omega))];exact hKQ j hj
   ·rw[t3 5 (by omega) (oP PT (by omega))];exact Xq
   ·exact .inr ⟨by omega,H.length+3,by omega,by omega,rfl,t1⟩
   ·exact⟨by rw[aMf,aU9];omega,by rw[aMf,aU9];omega⟩
   ·exact hT.app it iD
   ·intro t ht9;rcases List.mem_append.1 ht9 with h9|h9
    ·exact jn t h9
    ·exact⟨i,aMh.1 h9⟩
  ·have ain:m=2:=by omega
   have e1:((m:Int)==1)=false:=by rw[ain];rfl
   obtain⟨b,vO,Ao,hve,Lg⟩:∃b,7<=b/\b<H.length/\v=.aI b 0 m 24 m/\H[b]?=some (.cells .live cs):=by
    rcases pV with⟨h0,-,-⟩|⟨-,b,f1,f2,f3,f4⟩
    ·omega
    ·exact⟨b,f1,f2,f3,f4⟩
   obtain⟨RH,Ln⟩:∃RH,rest=[RH]:=by
    match rest,s8 with
    |[x],_=>exact⟨x,rfl⟩
    |[],h9=>simp at h9;omega
    |_::_::_,h9=>simp at h9;omega
   obtain⟨rn0,rm0,rn1,rm1,rn2,rm2,rn3,rm3,rn4,rm4,rn5,rm5,Cg,ir,alW⟩:=V7 (Ln▸hT);obtain⟨jj,hjj⟩:=jn RH (by rw[Ln];simp);have br:BV (2*(k+1)+1) RH.l:=by rw[hjj];exact jG bd (Uk jj)
   have R:=bP ir;have Da:=zx (E:=E0) iq ir bq br (by omega);replace Da:=tr (E:=E) rfl Da;have b1:=fun n l o=>pC (T:=H) (n:=n) (l:=l) (o:=o) Ao
   have b2:=fun n o=>pk (n:=n) (o:=o) Lg (by decide)
   have h48:(48<=cs.length)=True:=eq_true (by omega);have Wz:((1:Int)<(m:Int))=True:=eq_true (by omega);rw[hve]at g7;have ah1:=hve;subst ah1;by_cases Ov:dH D (eV i)≠v0/\RH.l≠v0/\dH (dH D (eV i)) RH.l=v0
   ·rw[b8 Ov]at Da;simp only[↓aN,aO,dJ,↓eH,gh,↓reduceIte,aa,ah,ak,ae,an,aq,hl,g3,g7,tb,CU,mM,w1,pz,Z,Q,P,hq,YO,Wt,Fy,d3,QK,e1,b1,b2,h48,Wz,Cg,R,Da,aRd,aMf];refine dG ?_;refine⟨_,?_,i+1,(.aI b 0 m 24 m),(H++[cz.cells gu.live [.bool yL,yq,.bool yM,yo,.bool yw,yO,.bool yx,ym,.bool yr,yN,.bool yD,yK],cz.cells gu.live [.bool zO,zK,.bool zI,zQ,.bool Lb,K8,.bool Le,Ll,.bool Lq,Ld,.bool Lh,Lp]]),m,cs,rest,rfl,(by simp only[cP,hl]),?_⟩
    ·first|omega|(simp;omega)
    simp only[cR,hl,aa,ae,g3,g7,tb]
    iterate 5 refine⟨by first|trivial|rfl|(congr 1;omega)|(simp;done)|(simp;omega),?_⟩
    refine⟨?_,?_,?_,?_,?_,?_,?_,?_⟩
    ·omega
    ·exact hK1
    ·exact hKQ
    ·exact Xq
    ·exact PT
    ·exact⟨s8,vN⟩
    ·exact hT
    ·exact jn
   ·rw[cg Ov]at Da;simp only[↓aN,aO,dJ,↓eH,gh,↓reduceIte,aa,ah,ak,ae,an,aq,hl,g3,g7,tb,CU,mM,w1,pz,Z,Q,P,hq,YO,Wt,Fy,d3,QK,e1,b1,b2,h48,Wz,Cg,R,Da,ht,km,iR,Ac,aKU,aRd,aMf];refine dG ?_;refine⟨_,?_,i+1,(.aI (H.length+3) 0 (m+1) 24 (m+1)),H2,(m+1),(cs++c),(rest++[kd (dH D (eV i))]),rfl,(by simp only[cP,hl]),?_⟩
    ·first|omega|(simp;omega)
    simp only[cR,hl,aa,ae,g3,tb]
    iterate 5 refine⟨by first|trivial|rfl|(congr 1;omega)|(simp;done)|(simp;omega),?_⟩
    refine⟨?_,?_,?_,?_,?_,?_,?_,?_⟩
    ·omega
    ·omega
    ·intro j hj;rw[t3 j (by omega) (oP PT (by omega))];exact hKQ j hj
    ·rw[t3 5 (by omega) (oP PT (by omega))];exact Xq
    ·exact .inr ⟨by omega,H.length+3,by omega,by omega,rfl,t1⟩
    ·exact⟨by rw[aMf,aU9];omega,by rw[aMf,aU9];omega⟩
    ·exact hT.app it iD
    ·intro t ht9;rcases List.mem_append.1 ht9 with h9|h9
     ·exact jn t h9
     ·exact⟨i,aMh.1 h9⟩
 ·have dc:decide ((i:Int)<3)=false:=cg (by omega);obtain⟨b,vO,Ao,hve,Lg⟩:∃b,7<=b/\b<H.length/\v=.aI b 0 m 24 m/\H[b]?=some (.cells .live cs):=by
   rcases pV with⟨h0,-,-⟩|⟨-,b,f1,f2,f3,f4⟩
   ·omega
   ·exact⟨b,f1,f2,f3,f4⟩
  rw[hve]at g7;simp only[↓aN,aO,↓reduceIte,aa,ae,hl,g7,CU,dc];obtain⟨T,hTT⟩:=az0 hQ;exact⟨ed D v0::rest,⟨cs,T,hTT,by rw[aMm,<-s8];exact .inr ⟨by omega,b,by omega,Ao,rfl,Lg⟩,hT⟩,rest,rfl,vN,jn⟩
end X1
end Go.Proofs.YtblnjkjjedanaaaGreatDoor
namespace Go.Proofs.YtblnjkjjedanaaaGreatDoor
open Go Dv Dv.b7
variable{E:Env}[C:Ctx E]
theorem JX{d:Int}{cl:Bool}{a0 a1 a2 b0 b1 b2 h:List UInt8}(vI:a0.length<=65536)(vH:a1.length<=65536)(vG:a2.length<=65536)(wS:b0.length<=65536)(wk:b1.length<=65536)(wh:b2.length<=65536):
  ∃r,aP E 40 [bO 0 d cl a0 a1 a2 b0 b1 b2 h]=some r/\sX r []:=by
 obtain⟨x,hx,ix⟩:=cw (E:=E) (s0:=a0) (s1:=a1) (s2:=a2) (by omega) (by omega) (by omega);obtain⟨y,hy,iy⟩:=cw (E:=E) (s0:=b0) (s1:=b1) (s2:=b2) (by omega) (by omega) (by omega);obtain⟨jo,ji,jr,jh,kf,jY,kj,j6,kh,j7,ke,j8,rfl,-,-,-,P,O⟩:=bM ix;obtain⟨kV,k7,kW,k6,lH,lK,lG,lI,lE,lL,lC,lF,rfl,-,-,-,P1,O1⟩:=bM iy;refine gv1 (C.ov _ _ (by decide)) (by rw[C.fn];exact wc) rfl (by decide) ?_;intro ts hl g0;unfold JU bO at*;simp only[↓aN,aO,↓aQ,aJ,↓reduceIte,aa,ah,ae,Tryz.f40,ai,aD,hl,g0,hx,hy,O,O1];exact .inl ⟨rfl,rfl⟩
namespace X1
variable{E:Env}[C:ou E]
theorem Tk{q0 q1 q2 q3:cz}{d:Int}{cl:Bool}{a0 a1 a2 b0 b1 b2 h:List UInt8}(vI:a0.length<=65536)(vH:a1.length<=65536)(vG:a2.length<=65536)(wS:b0.length<=65536)(wk:b1.length<=65536)(wh:b2.length<=65536):
  ∃r H',de E 40 [bO 0 d cl a0 a1 a2 b0 b1 b2 h] [q0,q1,q2,q3]=some (r,H')/\TwO q0 q1 q2 q3 [] r H':=by
 obtain⟨x,hx,ix⟩:=cw (E:=E0) (s0:=a0) (s1:=a1) (s2:=a2) (by omega) (by omega) (by omega);replace hx:=tr (E:=E) rfl hx;obtain⟨y,hy,iy⟩:=cw (E:=E0) (s0:=b0) (s1:=b1) (s2:=b2) (by omega) (by omega) (by omega);replace hy:=tr (E:=E) rfl hy;obtain⟨jo,ji,jr,jh,kf,jY,kj,j6,kh,j7,ke,j8,rfl,-,-,-,P,O⟩:=bM ix;obtain⟨kV,k7,kW,k6,lH,lK,lG,lI,lE,lL,lC,lF,rfl,-,-,-,P1,O1⟩:=bM iy;refine RL (by rw[C.sj]) (by rw[C.fn];exact wc) (by decide) ?_;intro ts hl g0;unfold JU bO at*;simp only[↓aN,aO,↓eH,gh,↓reduceIte,aa,ah,ae,Tryz.f40,ai,aD,hl,g0,hx,hy,O,O1];exact⟨[],_,rfl,.inl ⟨rfl,rfl,rfl⟩,.nil⟩
end X1
end Go.Proofs.YtblnjkjjedanaaaGreatDoor
namespace Go.Proofs.YtblnjkjjedanaaaGreatDoor
namespace X1
open Go Dv Dv.b7
variable{E:Env}[C:ou E]
theorem Qh{v:AV}{m:Mo}(h:MoR v m):∃c,v=.agg c/\c.length=48/\c.all df=true/\bE c=true:=by
 obtain⟨jo,ji,jr,jh,kf,jY,kj,j6,kh,j7,ke,j8,kV,k7,kW,k6,lH,lK,lG,lI,lE,lL,lC,lF,yL,yq,yM,yo,yw,yO,yx,ym,yr,yN,yD,yK,vw,u7,ve,vA,yH,yS,yF,yC,yn,yB,yt,yR,rfl,h1,h2,h3,h4⟩:=h;have A:=bP h1;have B:=bP h2;have C:=bP h3;have D:=bP h4;refine⟨_,rfl,rfl,?_,?_⟩
 ·simp only[List.all_cons,List.all_nil,oK,A,B,C,D,Bool.and_self]
 ·simp only[bE,aU,A,B,C,D,Bool.and_self]
theorem RW:∀{cs:List AV} {ts:List Tw},oE cs ts->∀{i:Nat} {c:List AV} {t:Tw},i<ts.length->wi (.agg c) t->c.length=24->oE (cH cs (i*24) c) (ts.set i t)
 |_,_,.nil,i,c,t,hi,_,_=>absurd hi (by simp)
 |_,_,.cons (c:=a) (cs:=cs) h hl h',0,c,t,hi,h1,hc=>by
  have e:cH (a++cs) (0*24) c=c++cs:=by unfold cH;rw[Nat.zero_mul,List.take_zero,List.nil_append,aLM,hc,<-hl,List.drop_left]
  rw[e,aT4];exact .cons h1 hc h'
 |_,_,.cons (c:=a) (cs:=cs) h hl h',i+1,c,t,hi,h1,hc=>by
  have e:cH (a++cs) ((i+1)*24) c=a++cH cs (i*24) c:=by
   unfold cH;rw[show(i+1)*24=a.length+i*24 by rw[hl];omega,List.take_length_add_append,aRd,aRd,aRd,aKU,<-List.drop_drop,List.drop_left]
  rw[e,List.set_cons_succ];exact .cons h hl (RW h' (by simpa using hi) h1 hc)
def mvs(m:Mo)(fJ:List Tw)(i:Nat):List Tw:=(fJ.take i).map (yG m)++fJ.drop i
theorem JH{m:Mo}{fJ:List Tw}{i:Nat}(h:i<=fJ.length):(mvs m fJ i).length=fJ.length:=by unfold mvs;rw[aMf,aTV,aMo,List.length_drop];omega
theorem aa0{m:Mo}{fJ:List Tw}{i:Nat}(h:i<fJ.length):(mvs m fJ i).getD i ⟨v0,v0⟩=fJ.getD i ⟨v0,v0⟩:=by unfold mvs;rw[aQP,aQP,List.getElem?_append_right (by rw[aTV,aMo];omega),aTV,aMo,List.getElem?_drop];congr 2;omega
theorem abc{m:Mo}{fJ:List Tw}{i:Nat}(h:i<fJ.length):(mvs m fJ i).set i (yG m (fJ.getD i ⟨v0,v0⟩))=mvs m fJ (i+1):=by unfold mvs;rw[List.set_append_right _ _ (by rw[aTV,aMo];omega),aTV,aMo,show i-min i fJ.length=0 by omega,List.drop_eq_getElem_cons h,aT4,List.take_add_one,List.map_append,aRd,aL5 h,aQP,aL5 h];rfl
theorem abG{m:Mo}{fJ:List Tw}:mvs m fJ fJ.length=fJ.map (yG m):=by unfold mvs;rw[aQV,List.drop_length,List.append_nil]
theorem abM{k d:Int}{cl:Bool}{a0 a1 a2 b0 b1 b2 h:List UInt8}(vI:a0.length<=65536)(vH:a1.length<=65536)(vG:a2.length<=65536)(wS:b0.length<=65536)(wk:b1.length<=65536)(wh:b2.length<=65536)(lh:h.length<=65536)(hc:qS k d cl a0 a1 a2 b0 b1 b2 h=0)(h8:k≠8)
  {t0 t1 t2 t3:Int} {s0 s1 s2:List UInt8} {mv:AV} {m:Mo} (OW:aP E0 42 [.agg [.int .i64 t0,.int .i64 t1,.int .i64 t2,.int .i64 t3,.str s0,.str s1,.str s2]]=some (.tuple [mv,.int .i64 0])) (hm:MoR mv m) {l q:Nat} (bm:BM l m) (Xu:q+l<=1000000000) {Q:List Tw->Prop}
  (htw:∀q0 q1 q2 q3,∃r H' fJ,de E 40 [bO k d cl a0 a1 a2 b0 b1 b2 h] [q0,q1,q2,q3]=some (r,H')/\TwO q0 q1 q2 q3 fJ r H'/\Q fJ) (hQ:∀fJ,Q fJ->BTs q fJ/\fJ.length<=6) {F:Prop}
  (awF:∀fJ v,Q fJ->sX v (fJ.map (yG m))->∃o G r,aP E0 44 [v]=some o/\vJ o G/\aP E0 9 [.agg [.int .i64 6,o,.aH]]=some (.tuple [r,.int .i64 0])/\YI r F):
  ∃r,aP E 13 [bO k d cl a0 a1 a2 b0 b1 b2 h,.agg [.int .i64 t0,.int .i64 t1,.int .i64 t2,.int .i64 t3,.str s0,.str s1,.str s2]]=some (.tuple [r,.int .i64 0])/\∃k d a0 a1 a2 b0 b1 b2 h,r=bO k d cl a0 a1 a2 b0 b1 b2 h/\(∀s∈[a0,a1,a2,b0,b1,b2,h],s.length<=65536)/\(k=7->F)/\((k=7->cl=true)->qS k d cl a0 a1 a2 b0 b1 b2 h=0):=by
 suffices hh:∃u,aP E 13 [bO k d cl a0 a1 a2 b0 b1 b2 h,.agg [.int .i64 t0,.int .i64 t1,.int .i64 t2,.int .i64 t3,.str s0,.str s1,.str s2]]=some u/\∃r,u=.tuple [r,.int .i64 0]/\∃k d a0 a1 a2 b0 b1 b2 h,r=bO k d cl a0 a1 a2 b0 b1 b2 h/\(∀s∈[a0,a1,a2,b0,b1,b2,h],s.length<=65536)/\(k=7->F)/\((k=7->cl=true)->qS k d cl a0 a1 a2 b0 b1 b2 h=0)by
  obtain⟨u,e,r,rfl,h⟩:=hh;exact⟨r,e,h⟩
 have nN:=kA (E:=E0) (k:=k) (d:=d) (cl:=cl) (a0:=a0) (a1:=a1) (a2:=a2) (b0:=b0) (b1:=b1) (b2:=b2) (h:=h) (by omega) (by omega) (by omega) (by omega) (by omega) (by omega) (by omega);replace nN:=tr (E:=E) rfl nN;replace OW:=tr (E:=E) rfl OW;rw[hc]at nN;have BI:(k==8)=false:=beq_eq_false_iff_ne.2 h8;obtain⟨cm,rfl,Sf,xJ,hmp⟩:=Qh hm;have Hf:aUr 48 cm=cm:=by rw[<-Sf,aQV]
 obtain⟨rv,H1,fJ,xd,⟨cs0,T,JO,sT,hT0⟩,hq⟩:=htw (.cells .live [.int .i64 k,.int .i64 d,.bool cl,.str a0,.str a1,.str a2,.str b0,.str b1,.str b2,.str h]) (.cells .live [.int .i64 t0,.int .i64 t1,.int .i64 t2,.int .i64 t3,.str s0,.str s1,.str s2]) (.cells .live [.int .i64 0,.int .i64 0,.bool false,.str [],.str [],.str [],.str [],.str [],.str [],.str []]) (.cells .live cm);obtain⟨bT,htl⟩:=hQ fJ hq;have Fy:k9 rv=some (fJ.length:Int):=by
  rcases sT with⟨h0,-,rfl⟩|⟨h0,b,h1,h2,rfl,h4⟩
  ·rw[h0];rfl
  ·rfl
 refine gv2 (C.ov (.inr (.inl rfl))) (by rw[C.fn];exact Yj) rfl (by decide) ?_;intro ts hl g0 g1;unfold c13 bO at*;simp only[↓aN,aO,↓eH,gh,↓reduceIte,aa,ah,ae,Tryz.f13,aE,hl,g0,g1,nN,OW,Sf,xJ,BI,xd,Fy];have hL1:4<=H1.length:=by rw[JO];simp
 have hQ1:∀j,j<4->H1[j]?=[cz.cells .live [.int .i64 k,.int .i64 d,.bool cl,.str a0,.str a1,.str a2,.str b0,.str b1,.str b2,.str h],.cells .live [.int .i64 t0,.int .i64 t1,.int .i64 t2,.int .i64 t3,.str s0,.str s1,.str s2],.cells .live [.int .i64 0,.int .i64 0,.bool false,.str [],.str [],.str [],.str [],.str [],.str [],.str []],.cells .live cm][j]?:=by
  intro j hj;rw[JO]
  match j,hj with|0,_=>rfl|1,_=>rfl|2,_=>rfl|3,_=>rfl
 clear JO xd;refine ft (fun k_ ts H=>∃i HC cs,k_=fJ.length-i/\ts.length=60/\gt ts 2=.b9 0 0/\gt ts 4=.b9 2 0/\gt ts 7=.b9 3 0/\gt ts 9=rv/\gt ts 34=rv/\gt ts 35=.int .i64 (fJ.length:Int)/\gt ts 36=.int .i64 (i:Int)/\H=HC/\(i<=fJ.length)/\(4<=HC.length)/\(∀j,j<4->HC[j]?=[cz.cells .live [.int .i64 k,.int .i64 d,.bool cl,.str a0,.str a1,.str a2,.str b0,.str b1,.str b2,.str h],.cells .live [.int .i64 t0,.int .i64 t1,.int .i64 t2,.int .i64 t3,.str s0,.str s1,.str s2],.cells .live [.int .i64 0,.int .i64 0,.bool false,.str [],.str [],.str [],.str [],.str [],.str [],.str []],.cells .live cm][j]?)/\(wW 24 4 rv HC fJ.length cs)/\(oE cs (mvs m fJ i))) (fJ.length) ?_ ?_
 rotate_left
 ·refine⟨0,H1,cs0,(by first|omega|rfl|(simp;done)),(by simp only[cP,hl]),?_⟩;simp only[cR,hl,aa,ae]
  iterate 8 refine⟨by first|trivial|rfl|(congr 1;omega)|(simp;done)|(simp;omega),?_⟩
  refine⟨?_,?_,?_,?_,?_⟩
  ·omega
  ·exact hL1
  ·exact hQ1
  ·exact sT
  ·exact hT0
 clear hl g0 g1 ts;rintro k_ ts H ⟨i,HC,cs,rfl,hl,g2,g4,g7,g9,g34,g35,g36,rfl,hi,hCl,hQ4,pV,hT⟩;refine VS ?_;have Td:=hQ4 0 (by omega);have hC2:=hQ4 2 (by omega);have hC3:=hQ4 3 (by omega);simp only[aPa,aPd]at Td hC2 hC3;have V8:=hT.len;rw[JH hi]at V8;by_cases hd:i<fJ.length
 ·have dc:decide ((i:Int)<(fJ.length:Int))=true:=b8 (by omega);have mM:((i:Int)<(fJ.length:Int))=True:=eq_true (by omega);have w1:aX .i64 ((i:Int)+1)=((i+1:Nat):Int):=by rw[wrap_i64 (by omega) (by omega)];omega
  obtain⟨b,vO,Ao,rfl,Lg⟩:∃b,4<=b/\b<H.length/\rv=.aI b 0 fJ.length 24 fJ.length/\H[b]?=some (.cells .live cs):=by
   rcases pV with⟨h0,-,-⟩|⟨-,b,f1,f2,f3,f4⟩
   ·omega
   ·exact⟨b,f1,f2,f3,f4⟩
  obtain⟨c,e1,ic⟩:=hT.get (i:=i) (by rw[JH hi];exact hd);rw[aa0 hd]at ic;have ld:lZ 24 H b (i*24)=some (.agg c):=by rw[pk Lg (by decide),if_pos (by omega),e1]
  obtain⟨u,hu,iu⟩:=Og (E:=E0) ic hm (bT.get hd) bm Xu;replace hu:=tr (E:=E) rfl hu;obtain⟨c',rfl,HE,Wb,aoo⟩:=fu iu;have iD:=xe ic;have Ok:aUr 24 c=c:=by rw[<-iD,aQV]
  have vB:=JS ic;have Es:=x9 ic;have c1:=fun l=>pC (T:=H) (n:=48) (l:=l) (o:=0) (show 3<H.length by omega)
  have c2:lZ 48 H 3 0=some (.agg cm):=by rw[pk hC3 (by decide),if_pos (by omega),List.drop_zero,Hf]
  have st1:∀l,mK 24 c' (H++l) b (i*24)=some (.cells .live (cH cs (i*24) c')):=by intro l;rw[sJ Ao,pn Lg,if_pos];rw[HE,Wb,Bool.and_true,beq_self_eq_true,Bool.true_and];exact b8 (by omega)
  have pb1:∀l x,eE (H++l) b x=H.set b x++l:=fun l x=>rW Ao
  simp only[↓aN,aO,dJ,↓eH,gh,↓reduceIte,aa,ah,ae,hl,g7,g9,g34,g35,g36,mM,w1,ld,iD,vB,Es,Ok,c1,c2,hmp,hu,st1,pb1,aRd];have qo:aUr (i*24) cs++(c'++List.drop (i*24+c'.length) cs)=cH cs (i*24) c':=by unfold cH;rw[aRd]
  rw[qo];refine dG ?_;refine⟨_,?_,i+1,(List.set H b (cz.cells gu.live (cH cs (i*24) c'))++[cz.cells gu.live c]),(cH cs (i*24) c'),rfl,(by simp only[cP,hl]),?_⟩
  ·first|omega|(simp;omega)
  simp only[cR,hl,aa,ae,g2,g4,g7,g9,g34,g35]
  iterate 8 refine⟨by first|trivial|rfl|(congr 1;omega)|(simp;done)|(simp;omega),?_⟩
  refine⟨?_,?_,?_,?_,?_⟩
  ·omega
  ·rw[aMf,aO8];omega
  ·intro j hj;rw[aNq (by rw[aO8];omega),List.getElem?_set_ne (by omega)];exact hQ4 j hj
  ·refine .inr ⟨by omega,b,vO,by rw[aMf,aO8];omega,rfl,?_⟩;rw[aNq (by rw[aO8];omega),aNl Ao]
  ·rw[<-abc hd];exact RW hT (by rw[JH hi];exact hd) iu HE
 ·have dc:decide ((i:Int)<(fJ.length:Int))=false:=cg (by omega);have hie:i=fJ.length:=by omega
  subst hie;rw[abG]at hT;obtain⟨vv,bs,gg,hTv,km⟩:∃vv bs,ow (aU rv) H [rv]=some ([vv],bs)/\sX vv (fJ.map (yG m))/\∀b∈bs,4<=b:=by
   rcases pV with⟨h0,h1,rfl⟩|⟨h0,b,f1,f2,rfl,f4⟩
   ·refine⟨.aH,[],rfl,.inl ⟨?_,rfl⟩,by simp⟩;rw[List.length_eq_zero_iff.1 h0];rfl
   ·refine⟨.aK cs fJ.length,[b],iJ (st:=.live) f4 (by decide) (by omega) hT.flat,.inr ⟨?_,cs,by rw[aTV],hT⟩,by simpa using f1⟩;intro e
    have:=congrArg List.length e
    rw[aTV]at this;simp at this;rw[this]at h0;exact absurd h0 (by simp)
  obtain⟨o,G,r,hs,ho,iD,hg⟩:=awF fJ vv hq hTv;have ho1:=ho.mO;replace hs:=tr (E:=E) rfl hs;replace iD:=tr (E:=E) rfl iD;obtain⟨k',d',EG,G9,Jf,HW,Hi,Eu,h',rfl,hlen,hF,arc⟩:=hg;obtain⟨HM,hHM,hM0,hM2,hML⟩:∃HM,(if bR o=true then cE.looks bs else cE.marks bs).app H=HM/\HM[0]?=H[0]?/\HM[2]?=H[2]?/\HM.length=H.length:=by
   refine⟨_,rfl,?_⟩
   split
   ·exact⟨rfl,rfl,rfl⟩
   ·refine⟨?_,?_,lX bs H⟩
    ·show(Dv.mark H bs)[0]?=_
     rw[ik,if_neg (fun e=>by have:=km 0 e;omega)]
    ·show(Dv.mark H bs)[2]?=_
     rw[ik,if_neg (fun e=>by have:=km 2 e;omega)]
  rw[Td]at hM0;rw[hC2]at hM2;have k0:∀l,cellAt (HM++l) 0 2=some (.bool cl):=fun l=>by
   rw[lU (by omega),kR hM0 (by decide)];rfl
  have k2:∀l,mK 10 [.int .i64 k',.int .i64 d',.bool cl,.str EG,.str G9,.str Jf,.str HW,.str Hi,.str Eu,.str h'] (HM++l) 2 0=some (.cells .live [.int .i64 k',.int .i64 d',.bool cl,.str EG,.str G9,.str Jf,.str HW,.str Hi,.str Eu,.str h']):=fun l=>by
   rw[sJ (by omega),pn hM2];rfl
  have k3:∀l x,eE (HM++l) 2 x=HM.set 2 x++l:=fun l x=>rW (by omega)
  have k4:∀l,lZ 10 (HM.set 2 (.cells .live [.int .i64 k',.int .i64 d',.bool cl,.str EG,.str G9,.str Jf,.str HW,.str Hi,.str Eu,.str h'])++l) 2 0=some (.agg [.int .i64 k',.int .i64 d',.bool cl,.str EG,.str G9,.str Jf,.str HW,.str Hi,.str Eu,.str h']):=fun l=>by
   rw[pC (by rw[aO8];omega),pk (aNl (by omega)) (by decide)];rfl
  unfold bO at*;simp only[↓aN,aO,dJ,↓eH,gh,↓reduceIte,aa,ah,ae,ai,hl,g2,g4,g9,g35,g36,dc,gg,hs,ho1,iD,hHM,k0,k2,k3,k4];exact⟨_,rfl,k',d',EG,G9,Jf,HW,Hi,Eu,h',rfl,hlen,hF,arc cl⟩
end X1
end Go.Proofs.YtblnjkjjedanaaaGreatDoor
namespace Go.Proofs.YtblnjkjjedanaaaGreatDoor
open Go Dv Dv.b7
variable{E:Env}[C:Ctx E]
section
variable{k d:Int}{cl:Bool}{a0 a1 a2 b0 b1 b2 h:List UInt8}
theorem TH(vI:a0.length<=65536)(vH:a1.length<=65536)(vG:a2.length<=65536)(wS:b0.length<=65536)(wk:b1.length<=65536)(wh:b2.length<=65536)(lh:h.length<=65536)(hc:qS k d cl a0 a1 a2 b0 b1 b2 h≠0):
  ∃r,aP E 12 [bO k d cl a0 a1 a2 b0 b1 b2 h]=some r/\r=.tuple [.aH,.int .i64 (qS k d cl a0 a1 a2 b0 b1 b2 h)]:=by
 have nN:=kA (E:=E) (k:=k) (d:=d) (cl:=cl) (a0:=a0) (a1:=a1) (a2:=a2) (b0:=b0) (b1:=b1) (b2:=b2) (h:=h) (by omega) (by omega) (by omega) (by omega) (by omega) (by omega) (by omega);generalize qS k d cl a0 a1 a2 b0 b1 b2 h=c at*;have BI:(c !=0)=true:=bne_iff_ne.2 hc;refine gv1 (C.ov _ _ (by decide)) (by rw[C.fn];exact ago) rfl (by decide) ?_;intro ts hl g0;unfold c12 bO at*;simp only[↓aN,aO,↓aQ,aJ,↓reduceIte,aa,ah,ae,Tryz.f12,hl,g0,nN,BI]
theorem Mg(vI:a0.length<=65536)(vH:a1.length<=65536)(vG:a2.length<=65536)(wS:b0.length<=65536)(wk:b1.length<=65536)(wh:b2.length<=65536)(lh:h.length<=65536)(hc:qS 8 d cl a0 a1 a2 b0 b1 b2 h=0):
  ∃r,aP E 12 [bO 8 d cl a0 a1 a2 b0 b1 b2 h]=some r/\r=.tuple [.aH,.int .i64 12]:=by
 have nN:=kA (E:=E) (k:=8) (d:=d) (cl:=cl) (a0:=a0) (a1:=a1) (a2:=a2) (b0:=b0) (b1:=b1) (b2:=b2) (h:=h) (by omega) (by omega) (by omega) (by omega) (by omega) (by omega) (by omega);rw[hc]at nN;refine gv1 (C.ov _ _ (by decide)) (by rw[C.fn];exact ago) rfl (by decide) ?_;intro ts hl g0;unfold c12 bO at*;simp only[↓aN,aO,↓aQ,aJ,↓reduceIte,aa,ah,ae,Tryz.f12,aE,hl,g0,nN]
namespace X1
variable{E:Env}[C:ou E]
theorem aam{t0 t1 t2 t3:Int}{s0 s1 s2:List UInt8}(vI:a0.length<=65536)(vH:a1.length<=65536)(vG:a2.length<=65536)(wS:b0.length<=65536)(wk:b1.length<=65536)(wh:b2.length<=65536)(lh:h.length<=65536)(hc:qS k d cl a0 a1 a2 b0 b1 b2 h≠0):
  ∃r,aP E 13 [bO k d cl a0 a1 a2 b0 b1 b2 h,.agg [.int .i64 t0,.int .i64 t1,.int .i64 t2,.int .i64 t3,.str s0,.str s1,.str s2]]=some r/\r=.tuple [bO 0 0 false [] [] [] [] [] [] [],.int .i64 (qS k d cl a0 a1 a2 b0 b1 b2 h)]:=by
 have nN:=kA (E:=E0) (k:=k) (d:=d) (cl:=cl) (a0:=a0) (a1:=a1) (a2:=a2) (b0:=b0) (b1:=b1) (b2:=b2) (h:=h) (by omega) (by omega) (by omega) (by omega) (by omega) (by omega) (by omega);replace nN:=tr (E:=E) rfl nN;generalize qS k d cl a0 a1 a2 b0 b1 b2 h=c at*;have BI:(c !=0)=true:=bne_iff_ne.2 hc;refine gv2 (C.ov (.inr (.inl rfl))) (by rw[C.fn];exact Yj) rfl (by decide) ?_;intro ts hl g0 g1;unfold c13 bO at*;simp only[↓aN,aO,↓eH,gh,↓reduceIte,aa,ah,ae,Tryz.f13,hl,g0,g1,nN,BI]
theorem Vh{t0 t1 t2 t3:Int}{s0 s1 s2:List UInt8}{c:Int}{mv:AV}{m:Mo}(vI:a0.length<=65536)(vH:a1.length<=65536)(vG:a2.length<=65536)(wS:b0.length<=65536)(wk:b1.length<=65536)(wh:b2.length<=65536)(lh:h.length<=65536)(hc:qS k d cl a0 a1 a2 b0 b1 b2 h=0)(OW:aP E0 42 [.agg [.int .i64 t0,.int .i64 t1,.int .i64 t2,.int .i64 t3,.str s0,.str s1,.str s2]]=some (.tuple [mv,.int .i64 c]))(hm:MoR mv m)(ZG:c≠0):
  ∃r,aP E 13 [bO k d cl a0 a1 a2 b0 b1 b2 h,.agg [.int .i64 t0,.int .i64 t1,.int .i64 t2,.int .i64 t3,.str s0,.str s1,.str s2]]=some r/\r=.tuple [bO 0 0 false [] [] [] [] [] [] [],.int .i64 c]:=by
 have nN:=kA (E:=E0) (k:=k) (d:=d) (cl:=cl) (a0:=a0) (a1:=a1) (a2:=a2) (b0:=b0) (b1:=b1) (b2:=b2) (h:=h) (by omega) (by omega) (by omega) (by omega) (by omega) (by omega) (by omega);replace nN:=tr (E:=E) rfl nN;replace OW:=tr (E:=E) rfl OW;rw[hc]at nN;obtain⟨cm,rfl,Sf,xJ,hmp⟩:=Qh hm;have Hf:aUr 48 cm=cm:=by rw[<-Sf,aQV]
 have BI:(c !=0)=true:=bne_iff_ne.2 ZG;refine gv2 (C.ov (.inr (.inl rfl))) (by rw[C.fn];exact Yj) rfl (by decide) ?_;intro ts hl g0 g1;unfold c13 bO at*;simp only[↓aN,aO,↓eH,gh,↓reduceIte,aa,ah,ae,Tryz.f13,aE,hl,g0,g1,nN,OW,Sf,xJ,BI]
theorem Qn{t0 t1 t2 t3:Int}{s0 s1 s2:List UInt8}{mv:AV}{m:Mo}(vI:a0.length<=65536)(vH:a1.length<=65536)(vG:a2.length<=65536)(wS:b0.length<=65536)(wk:b1.length<=65536)(wh:b2.length<=65536)(lh:h.length<=65536)(hc:qS 8 d cl a0 a1 a2 b0 b1 b2 h=0)(OW:aP E0 42 [.agg [.int .i64 t0,.int .i64 t1,.int .i64 t2,.int .i64 t3,.str s0,.str s1,.str s2]]=some (.tuple [mv,.int .i64 0]))(hm:MoR mv m):
  ∃r,aP E 13 [bO 8 d cl a0 a1 a2 b0 b1 b2 h,.agg [.int .i64 t0,.int .i64 t1,.int .i64 t2,.int .i64 t3,.str s0,.str s1,.str s2]]=some r/\r=.tuple [bO 8 d cl a0 a1 a2 b0 b1 b2 h,.int .i64 0]:=by
 have nN:=kA (E:=E0) (k:=8) (d:=d) (cl:=cl) (a0:=a0) (a1:=a1) (a2:=a2) (b0:=b0) (b1:=b1) (b2:=b2) (h:=h) (by omega) (by omega) (by omega) (by omega) (by omega) (by omega) (by omega);replace nN:=tr (E:=E) rfl nN;replace OW:=tr (E:=E) rfl OW;rw[hc]at nN;obtain⟨cm,rfl,Sf,xJ,hmp⟩:=Qh hm;have Hf:aUr 48 cm=cm:=by rw[<-Sf,aQV]
 refine gv2 (C.ov (.inr (.inl rfl))) (by rw[C.fn];exact Yj) rfl (by decide) ?_;intro ts hl g0 g1;unfold c13 bO at*;simp only[↓aN,aO,↓eH,gh,↓reduceIte,aa,ah,ae,Tryz.f13,aE,hl,g0,g1,nN,OW,Sf,xJ]
end X1
end
end Go.Proofs.YtblnjkjjedanaaaGreatDoor
namespace Go.Proofs.YtblnjkjjedanaaaGreatDoor
open Go Dv Dv.b7
open Go.Proofs.kY
variable{E:Env}[C:Ctx E]
theorem gq(n:Nat):1<=10^n:=Nat.pow_pos (by omega)
theorem vR{m n:Nat}(h:m<=n):10^m<=10^n:=aQT (by omega) h
theorem LW{L:Int}{s:List UInt8}(h:cN L s=0):∃n D:Int,D≠0/\n.natAbs<=10^s.length/\D.natAbs<=10^s.length/\fh s=(n:Rat)/(D:Rat):=by
 unfold cN at h;split at h
 ·exact absurd h (by decide)
 split at h
 ·exact absurd h (by decide)
 rename_i h1 h2;have vM:Ew (oD s)=true:=by
  cases hx:Ew (oD s)
  ·exact absurd (.inl hx) h2
  ·rfl
 have b1:(pN s).natAbs<=10^s.length:=by
  have:=I7 (uY vM).1
  have h3:=vR (Fc s);unfold pN
  split<;>omega
 have h1r:((1:Int):Rat)=1:=rfl;have h0r:((0:Int):Rat)=0:=rfl;have e1:(pN s:Rat)=(pN s:Rat)/((1:Int):Rat):=by rw[h1r];grind
 by_cases hc:sy s=true
 ·have tz:Ew (kS s)=true:=by
   cases hx:Ew (kS s)
   ·exact absurd (.inr ⟨hc,hx⟩) h2
   ·rfl
  have b2:rI s<=10^s.length:=by
   have:=I7 (uY tz).1
   have h3:=vR (Ga s);unfold rI;omega
  by_cases hz:rI s=0
  ·refine⟨0,1,by decide,by simp,by simpa using gq s.length,?_⟩;unfold fh;rw[if_pos hc,hz,h0r];show Rat.divInt (pN s) 0=_
   rw[Rat.divInt_zero]
   grind
  ·refine⟨pN s,rI s,by omega,b1,by omega,?_⟩;unfold fh;rw[if_pos hc,Rat.divInt_eq_div]
 ·refine⟨pN s,1,by decide,b1,by simpa using gq s.length,?_⟩;unfold fh;rw[if_neg hc];exact e1
def VF(K:Nat)(v:V3):Prop:=∃D n0 n1 n2:Int,D≠0/\D.natAbs<=K/\n0.natAbs<=K/\n1.natAbs<=K/\n2.natAbs<=K/\v=⟨(n0:Rat)/(D:Rat),(n1:Rat)/(D:Rat),(n2:Rat)/(D:Rat)⟩
theorem VF.mono{K K':Nat}{v:V3}(h:VF K v)(hk:K<=K'):VF K' v:=by obtain⟨D,n0,n1,n2,h0,h1,h2,h3,h4,h5⟩:=h;exact⟨D,n0,n1,n2,h0,by omega,by omega,by omega,by omega,h5⟩
theorem S8{K:Nat}(h:1<=K):VF K v0:=by
 refine⟨1,0,0,0,by decide,h,aVe _,aVe _,aVe _,?_⟩;have h0:((0:Int):Rat)=0:=rfl;have e:((0:Int):Rat)/((1:Int):Rat)=0:=by rw[h0];grind
 rw[e];rfl
theorem yy{a b c:Int}{x y z:Nat}(ha:a.natAbs<=x)(hb:b.natAbs<=y)(hc:c.natAbs<=z):(a*b*c).natAbs<=x*y*z:=fe (fe ha hb) hc
theorem sK{L:Int}{s0 s1 s2:List UInt8}:VF (10^(s0.length+s1.length+s2.length)) (cT L s0 s1 s2):=by
 unfold cT
 split
 ·rename_i h;unfold kQ at h;split at h
  ·rename_i h0;exact absurd h h0
  rename_i h0;split at h
  ·rename_i h1;exact absurd h h1
  rename_i h1;obtain⟨a,A,A0,ba,bA,ea⟩:=LW (L:=L) (s:=s0) (by omega);obtain⟨b,B,B0,bb,bB,eb⟩:=LW (L:=L) (s:=s1) (by omega);obtain⟨c,C,C0,bc,bC,ec⟩:=LW (L:=L) (s:=s2) h;rw[ea,eb,ec,aQ3,aQ3];refine⟨A*B*C,a*B*C,A*b*C,A*B*c,aWx (aWx A0 B0) C0,yy bA bB bC,yy ba bB bC,yy bA bb bC,yy bA bB bc,?_⟩;have hA:=fH A0;have hB:=fH B0;have hC:=fH C0;simp only[aUo,V3.mk.injEq];refine⟨?_,?_,?_⟩<;>grind
 ·exact S8 (gq _)
theorem afE{K:Nat}{d:V3}(h:VF K d)(dY:d≠v0)(hl:eM d=d):∃u0 u1 u2:Int,d=⟨(u0:Rat),(u1:Rat),(u2:Rat)⟩/\u0.natAbs<=K/\u1.natAbs<=K/\u2.natAbs<=K:=by obtain⟨D,n0,n1,n2,h0,h1,h2,h3,h4,h5⟩:=h;obtain⟨m0,m1,m2,hi,l0,l1,l2,-,-⟩:=tM (a:=d) (D:=D) (n0:=n0) (n1:=n1) (n2:=n2) ⟨h0,by rw[h5],by rw[h5],by rw[h5]⟩ dY;rw[hl]at hi;exact⟨m0,m1,m2,hi.e,by omega,by omega,by omega⟩
theorem VF.bits{K b:Nat}{v:V3}(h:VF K v)(hb:K<=2^b):BV (b+1) v:=by obtain⟨D,n0,n1,n2,h0,h1,h2,h3,h4,h5⟩:=h;rw[h5];exact⟨fO h0 (by omega) (by omega),fO h0 (by omega) (by omega),fO h0 (by omega) (by omega)⟩
def NM(M:Nat)(t:Tw):Prop:=∃D x0 x1 x2 y0 y1 y2:Int,D≠0/\D.natAbs<=M/\(x0.natAbs<=M/\x1.natAbs<=M/\x2.natAbs<=M/\y0.natAbs<=M/\y1.natAbs<=M/\y2.natAbs<=M)/\t=⟨⟨(x0:Rat)/(D:Rat),(x1:Rat)/(D:Rat),(x2:Rat)/(D:Rat)⟩,⟨(y0:Rat)/(D:Rat),(y1:Rat)/(D:Rat),(y2:Rat)/(D:Rat)⟩⟩
theorem NM.mono{M M':Nat}{t:Tw}(h:NM M t)(hm:M<=M'):NM M' t:=by obtain⟨D,x0,x1,x2,y0,y1,y2,h0,h1,⟨h2,h3,h4,h5,h6,h7⟩,h8⟩:=h;exact⟨D,x0,x1,x2,y0,y1,y2,h0,by omega,⟨by omega,by omega,by omega,by omega,by omega,by omega⟩,h8⟩
theorem NM.cv{M b:Nat}{t:Tw}(h:NM M t)(hb:M<=2^b):CV b (fv t.qs):=by obtain⟨D,x0,x1,x2,y0,y1,y2,h0,h1,⟨h2,h3,h4,h5,h6,h7⟩,rfl⟩:=h;refine oV h0 (by omega) ?_;simp only[aMc,aS7,or_false,forall_eq_or_imp,forall_eq];exact⟨by omega,by omega,by omega,by omega,by omega,by omega⟩
theorem LX{U:Nat}{u0 u1 u2:Int}(h1:1<=U)(b0:u0.natAbs<=U)(b1:u1.natAbs<=U)(b2:u2.natAbs<=U):NM U (kd ⟨(u0:Rat),(u1:Rat),(u2:Rat)⟩):=by
 refine⟨1,0,0,0,u0,u1,u2,by decide,h1,⟨aVe _,aVe _,aVe _,b0,b1,b2⟩,?_⟩;have h0:((0:Int):Rat)=0:=rfl;have h1:((1:Int):Rat)=1:=rfl;unfold kd v0;rw[h0,h1];simp only[Tw.mk.injEq,V3.mk.injEq];refine⟨⟨?_,?_,?_⟩,?_,?_,?_⟩<;>grind
theorem W9{U P Q:Nat}{u0 u1 u2 n D:Int}{p:V3}(hU:1<=U)(b0:u0.natAbs<=U)(b1:u1.natAbs<=U)(b2:u2.natAbs<=U)(hp:VF P p)(hD:D≠0)(bD:D.natAbs<=Q)(bn:n.natAbs<=Q):
  NM (3*(U*P*Q)) (Bs (ed ⟨(u0:Rat),(u1:Rat),(u2:Rat)⟩ p) (kd (dW ((n:Rat)/(D:Rat)) ⟨(u0:Rat),(u1:Rat),(u2:Rat)⟩))):=by
 obtain⟨N,p0,p1,p2,hN,bN,c0,c1,c2,rfl⟩:=hp;have hDq:=fH hD;have Vs:=fH hN;have f0:=yy b0 bN bD;have f1:=yy b1 bN bD;have f2:=yy b2 bN bD;have g0:=yy b0 bN bn;have g1:=yy b1 bN bn;have g2:=yy b2 bN bn;have k12:=yy b2 c1 bD;have k21:=yy b1 c2 bD;have k20:=yy b0 c2 bD;have k02:=yy b2 c0 bD;have k01:=yy b1 c0 bD;have k10:=yy b0 c1 bD;have hND:(N*D).natAbs<=3*(U*P*Q):=by
  have h1:=fe bN bD;have h2:P*Q<=U*P*Q:=by rw[aPv];exact Nat.le_mul_of_pos_left _ hU
  omega
 generalize U*P*Q=X at*;refine⟨N*D,u0*N*D,u1*N*D,u2*N*D,u2*p1*D-u1*p2*D+u0*N*n,u0*p2*D-u2*p0*D+u1*N*n,u1*p0*D-u0*p1*D+u2*N*n,aWx hN hD,hND,⟨by omega,by omega,by omega,by omega,by omega,by omega⟩,?_⟩;unfold Bs ed kd CS dH dW v0;simp only[aVB,aVG,aUo,Tw.mk.injEq,V3.mk.injEq];refine⟨⟨?_,?_,?_⟩,?_,?_,?_⟩<;>grind
theorem Gb{U P:Nat}{u0 u1 u2:Int}{p:V3}(hU:1<=U)(b0:u0.natAbs<=U)(b1:u1.natAbs<=U)(b2:u2.natAbs<=U)(hp:VF P p):
  NM (3*(U*P)) (ed ⟨(u0:Rat),(u1:Rat),(u2:Rat)⟩ p):=by
 obtain⟨N,p0,p1,p2,hN,bN,c0,c1,c2,rfl⟩:=hp;have Vs:=fH hN;have f0:=fe b0 bN;have f1:=fe b1 bN;have f2:=fe b2 bN;have k12:=fe b2 c1;have k21:=fe b1 c2;have k20:=fe b0 c2;have k02:=fe b2 c0;have k01:=fe b1 c0;have k10:=fe b0 c1;have hND:N.natAbs<=3*(U*P):=by have h2:1*P<=U*P:=aLL _ hU;omega
 generalize U*P=X at*;refine⟨N,u0*N,u1*N,u2*N,u2*p1-u1*p2,u0*p2-u2*p0,u1*p0-u0*p1,hN,hND,⟨by omega,by omega,by omega,by omega,by omega,by omega⟩,?_⟩;unfold ed dH;simp only[aVG,aUo,Tw.mk.injEq,V3.mk.injEq];refine⟨⟨?_,?_,?_⟩,?_,?_,?_⟩<;>grind
end Go.Proofs.YtblnjkjjedanaaaGreatDoor
namespace Go.Proofs.YtblnjkjjedanaaaGreatDoor
open Go Dv Dv.b7
variable{E:Env}[C:Ctx E]
theorem FR{z:Int}(h:0<=z/\z<=8):aP E 34 [.int .i64 z]=some (.tuple [.bool (Rv z),.bool (TC z),.bool (Zj z)]):=by
 obtain e|e|e|e|e|e|e|e|e:z=0∨z=1∨z=2∨z=3∨z=4∨z=5∨z=6∨z=7∨z=8:=by omega
 all_goals subst e;exact kr (n:=40) (by kernel_rfl) (by kernel_rfl)
theorem Uy{v:AV}{a:V3}(h:eY v a){k:Nat}(ba:BV k a)(hk:k<=1000000000)(dY:a≠v0):
  ∃r,aP E 31 [v]=some r/\eY r (eM a):=by
 obtain⟨p,hp,ip⟩:=wU (E:=E) h ba hk dY;have bp:=CO ba dY;have hc:=o9 (E:=E) ip vC bp bv0 (by omega);obtain⟨n,hn,in'⟩:=Iq (E:=E) ip bp (by omega);obtain⟨J8,Km,Kz,JK,Ng,MV,N1,Nc,ND,Ol,NW,Oe,rfl,-,-,-,P,O⟩:=bM h;obtain⟨VB,Vx,VE,VI,pn2,pm2,pn3,pm3,pn4,pm4,pn5,pm5,rfl,-,-,-,P1,O1⟩:=bM ip;obtain⟨zO,zK,zI,zQ,Lb,K8,Le,Ll,Lq,Ld,Lh,Lp,rfl,-,-,-,P2,O2⟩:=bM in';refine nY au9 ?_;intro ts hl g0;unfold c31 eM;by_cases hs:yE (sA a) v0<0
 ·have hd:decide (yE (sA a) v0<0)=true:=b8 hs;rw[if_pos hs];simp only[↓aN,aO,↓aQ,aJ,↓reduceIte,aa,ah,ae,Tryz.f31,aE,hl,g0,P,P1,O1,P2,O2,hp,hc,hn,hd];exact in'
 ·have hd:decide (yE (sA a) v0<0)=false:=cg hs;rw[if_neg hs];simp only[↓aN,aO,↓aQ,aJ,↓reduceIte,aa,ah,ae,Tryz.f31,aE,hl,g0,P,P1,O1,hp,hc,hd];exact ip
theorem Bw{m:Nat}{a b:Int}:yJ E (m+1) 3 (.int .i64 a) (.int .i64 b)=some (a==b):=by
 have h:iI E 3=some .i64:=Eh C (by kernel_rfl);unfold iI at h;unfold yJ;cases hi:E.ty 3 with
 |none=>rw[hi]at h;cases h
 |some i=>
  rw[hi]at h;obtain⟨cV,isAgg,size,bytes,zero,eS⟩:=i;cases cV<;>first|(cases h;done)|simp
theorem aa5{c:Bool}{t0 t1 t2 t3:Int}:dC E c .eql 44 (.agg [.int .i64 t0,.int .i64 t1,.int .i64 t2,.int .i64 t3]) (.agg [.int .i64 0,.int .i64 0,.int .i64 0,.int .i64 0])=some (.bool (decide (t0=0/\t1=0/\t2=0/\t3=0))):=by
 have h:QD E 44 4 3=true:=Wj C (by kernel_rfl);have LZ:gv E 44=some (4,false,1):=Ak C (by kernel_rfl);unfold QD at h;unfold gv at LZ;cases hi:E.ty 44 with
 |none=>rw[hi]at h;cases h
 |some i=>
  rw[hi]at h LZ;obtain⟨cV,isAgg,size,bytes,zero,eS⟩:=i;cases cV<;>first|(cases h;done)|skip
  rename_i m f;simp only[Bool.and_eq_true,beq_iff_eq]at h;obtain⟨h1,rfl,rfl⟩:=h;subst h1;simp only at LZ;cases he:E.ty 3 with
  |none=>rw[he]at LZ;cases LZ
  |some ei=>
   rw[he]at LZ;simp only[Option.some.injEq,Prod.mk.injEq]at LZ;obtain⟨-,h2,h3⟩:=LZ;have hp:∀(l:List AV) (j:Nat),jq E 3 l j=l[j]?:=by intro l j;simp[jq,he,h2]
   have e1:yJ E 20 44 (.agg [.int .i64 t0,.int .i64 t1,.int .i64 t2,.int .i64 t3]) (.agg [.int .i64 0,.int .i64 0,.int .i64 0,.int .i64 0])=some (decide (t0=0/\t1=0/\t2=0/\t3=0)):=by
    unfold yJ;simp only[hi,he,h3];by_cases g0:t0=0
    ·by_cases g1:t1=0
     ·by_cases g2:t2=0
      ·by_cases g3:t3=0
       ·simp[jL,hp,Bw,g0,g1,g2,g3]
       ·have i3:(t3==0)=false:=beq_eq_false_iff_ne.2 g3;simp[jL,hp,Bw,g0,g1,g2,g3,i3]
      ·have i2:(t2==0)=false:=beq_eq_false_iff_ne.2 g2;simp[jL,hp,Bw,g0,g1,g2,i2]
     ·have i1:(t1==0)=false:=beq_eq_false_iff_ne.2 g1;simp[jL,hp,Bw,g0,g1,i1]
    ·have i0:(t0==0)=false:=beq_eq_false_iff_ne.2 g0;simp[jL,hp,Bw,g0,i0]
   simp[dC,dC.zl,hi,e1]
def CD(t:Int):Bool:=decide (-12<=t/\t<=12)
theorem xz{t:Int}(h:CD t=true):decide (t< -12)=false/\decide (t>12)=false:=by
 unfold CD at h
 have:=of_decide_eq_true h
 exact⟨cg (by omega),cg (by omega)⟩
theorem Ey{t:Int}(h:¬CD t=true):decide (t< -12)=true∨(decide (t< -12)=false/\decide (t>12)=true):=by
 unfold CD at h
 have:¬(-12<=t/\t<=12):=fun e=>h (b8 e)
 by_cases h1:t< -12
 ·exact .inl (b8 h1)
 ·exact .inr ⟨cg h1,b8 (by omega)⟩
theorem Nh{t0 t1 t2 t3:Int}{s0 s1 s2:List UInt8}(h0:s0.length<=4611686018427387904)(h1:s1.length<=4611686018427387904)(h2:s2.length<=4611686018427387904):
  ∃c,aP E 16 [.agg [.int .i64 t0,.int .i64 t1,.int .i64 t2,.int .i64 t3,.str s0,.str s1,.str s2]]=some (.int .i64 c)/\(c=0->(CD t0=true/\CD t1=true/\CD t2=true/\CD t3=true)/\¬(t0=0/\t1=0/\t2=0/\t3=0)/\kQ 400 s0 s1 s2=0):=by
 suffices hh:∃u,aP E 16 [.agg [.int .i64 t0,.int .i64 t1,.int .i64 t2,.int .i64 t3,.str s0,.str s1,.str s2]]=some u/\∃c,u=.int .i64 c/\(c=0->(CD t0=true/\CD t1=true/\CD t2=true/\CD t3=true)/\¬(t0=0/\t1=0/\t2=0/\t3=0)/\kQ 400 s0 s1 s2=0)by
  obtain⟨u,e,c,rfl,h⟩:=hh;exact⟨c,e,h⟩
 have hq:=fun{c:Bool}=>aa5 (E:=E) (c:=c) (t0:=t0) (t1:=t1) (t2:=t2) (t3:=t3)
 obtain⟨r,hr,ir⟩:=DN (E:=E) h0 h1 h2;obtain⟨jo,ji,jr,jh,kf,jY,kj,j6,kh,j7,ke,j8,rfl,-,-,-,P,O⟩:=bM ir;refine nY ayN ?_;intro ts hl g0;unfold c16;by_cases hz:t0=0/\t1=0/\t2=0/\t3=0
 ·rw[b8 hz]at hq;simp only[↓aN,aO,aJ,↓reduceIte,aa,ah,ae,Tryz.f16,ai,aB,hl,g0,hq];exact⟨_,rfl,fun e=>absurd e (by decide)⟩
 rw[cg hz]at hq;simp only[↓aN,aO,aJ,↓reduceIte,aa,ah,ae,Tryz.f16,ai,aB,hl,g0,hq];refine ew 5 ?_;by_cases k0:CD t0=true
 rotate_left
 ·rcases Ey k0 with e|⟨e,e'⟩
  ·simp only[↓aN,aO,aJ,↓reduceIte,aa,ae,an,ao,aq,aB,hl,e];exact⟨_,rfl,fun e=>absurd e (by decide)⟩
  ·simp only[↓aN,aO,aJ,↓reduceIte,aa,ae,an,ao,aq,aB,hl,e,e'];exact⟨_,rfl,fun e=>absurd e (by decide)⟩
 obtain⟨a0,EG⟩:=xz k0;by_cases k1:CD t1=true
 rotate_left
 ·rcases Ey k1 with e|⟨e,e'⟩
  ·simp only[↓aN,aO,aJ,↓reduceIte,aa,ae,an,ao,aq,aA,aB,hl,a0,EG,uj,e];exact⟨_,rfl,fun e=>absurd e (by decide)⟩
  ·simp only[↓aN,aO,aJ,↓reduceIte,aa,ae,an,ao,aq,aA,aB,hl,a0,EG,uj,e,e'];exact⟨_,rfl,fun e=>absurd e (by decide)⟩
 obtain⟨a1,G9⟩:=xz k1;by_cases k2:CD t2=true
 rotate_left
 ·rcases Ey k2 with e|⟨e,e'⟩
  ·simp only[↓aN,aO,aJ,↓reduceIte,aa,ae,an,ao,aq,aA,aB,hl,a0,EG,a1,G9,uj,zZ,e];exact⟨_,rfl,fun e=>absurd e (by decide)⟩
  ·simp only[↓aN,aO,aJ,↓reduceIte,aa,ae,an,ao,aq,aA,aB,hl,a0,EG,a1,G9,uj,zZ,e,e'];exact⟨_,rfl,fun e=>absurd e (by decide)⟩
 obtain⟨a2,Jf⟩:=xz k2;by_cases k3:CD t3=true
 rotate_left
 ·rcases Ey k3 with e|⟨e,e'⟩
  ·simp only[↓aN,aO,aJ,↓reduceIte,aa,ae,an,ao,aq,aA,aB,hl,a0,EG,a1,G9,a2,Jf,uj,zZ,ED,e];exact⟨_,rfl,fun e=>absurd e (by decide)⟩
  ·simp only[↓aN,aO,aJ,↓reduceIte,aa,ae,an,ao,aq,aA,aB,hl,a0,EG,a1,G9,a2,Jf,uj,zZ,ED,e,e'];exact⟨_,rfl,fun e=>absurd e (by decide)⟩
 obtain⟨a3,a3'⟩:=xz k3;simp only[↓aN,aO,aJ,↓reduceIte,aa,ah,ae,an,ao,aq,ai,aA,aB,hl,a0,EG,a1,G9,a2,Jf,a3,a3',uj,zZ,ED,wk4];refine ft (fun k_ ts H=>∃i g sg,k_=4-i/\ts.length=60/\gt ts 1=.b9 0 0/\gt ts 5=.int .i64 ((g:Nat):Int)/\gt ts 6=.int .i64 sg/\gt ts 29=.agg [.int .i64 t0,.int .i64 t1,.int .i64 t2,.int .i64 t3]/\gt ts 30=.int .i64 (i:Int)/\H=[.cells .live [.int .i64 t0,.int .i64 t1,.int .i64 t2,.int .i64 t3,.str s0,.str s1,.str s2]]/\(i<=4)/\(g<=12)) (4) ?_ ?_
 rotate_left
 ·refine⟨0,0,0,(by first|omega|rfl|(simp;done)),(by simp only[cP,hl]),?_⟩;simp only[cR,hl,aa,ae]
  iterate 6 refine⟨by first|trivial|rfl|(congr 1;omega)|(simp;done)|(simp;omega),?_⟩
  refine⟨?_,?_⟩
  ·omega
  ·omega
 clear hl g0 ts;rintro k_ ts H ⟨i,g,sg,rfl,hl,g1,g5,g6,JY,K9,rfl,hi,hg⟩;refine VS ?_;by_cases hd:i<4
 rotate_left
 ·have dc:decide ((i:Int)<4)=false:=cg (by omega);by_cases hb:(g:Int)=1/\¬sg<0
  ·have b1:((g:Int)!=1)=false:=by rw[hb.1];rfl
   have b2:decide (sg<0)=false:=cg hb.2;simp only[↓aN,aO,↓aQ,aJ,↓reduceIte,aa,ah,ae,hl,g1,g5,g6,K9,dc,b1,b2,hr,O];exact⟨_,rfl,fun e=>⟨⟨k0,k1,k2,k3⟩,hz,e⟩⟩
  ·by_cases vO:(g:Int)=1
   ·have b1:((g:Int)!=1)=false:=by rw[vO];rfl
    have b2:decide (sg<0)=true:=b8 (by omega);simp only[↓aN,aO,↓reduceIte,aa,ae,hl,g5,g6,K9,dc,b1,b2];exact⟨_,rfl,fun e=>absurd e (by decide)⟩
   ·have b1:((g:Int)!=1)=true:=bne_iff_ne.2 vO;simp only[↓aN,aO,↓reduceIte,aa,ae,hl,g5,K9,dc,b1];exact⟨_,rfl,fun e=>absurd e (by decide)⟩
 have dc:decide ((i:Int)<4)=true:=b8 (by omega);have dc':((i:Int)<4)=True:=eq_true (by omega);have w1:aX .i64 ((i:Int)+1)=((i+1:Nat):Int):=by rw[wrap_i64 (by omega) (by omega)];omega
 obtain⟨t,hpt,ht⟩:∃t,fD false 1 [.int .i64 t0,.int .i64 t1,.int .i64 t2,.int .i64 t3] i=some (.int .i64 t)/\CD t=true:=by
  obtain e|e|e|e:i=0∨i=1∨i=2∨i=3:=by omega
  all_goals subst e
  ·exact⟨t0,rfl,k0⟩
  ·exact⟨t1,rfl,k1⟩
  ·exact⟨t2,rfl,k2⟩
  ·exact⟨t3,rfl,k3⟩
 have htb:=of_decide_eq_true ht;have hpr:E.pairs 17 6=[]:=eR C rfl;have wn:aX .i64 (0-t)= -t:=by rw[wrap_i64 (by omega) (by omega)];omega
 obtain⟨a,ha,Tn⟩:∃a:Nat,a<=12/\∀H aL,aV E H aL .max [3,3] [.int .i64 t,.int .i64 (-t)]=some (.int .i64 (a:Int),[]):=by
  by_cases hp:0<=t
  ·refine⟨t.toNat,by omega,fun H aL=>?_⟩;rw[show((t.toNat:Nat):Int)=t by omega];by_cases h0:t=0
   ·subst h0;simp[aV,wX,Fq]
   ·have h1:¬t< -t:=by omega
    simp[aV,wX,Fq];omega
  ·refine⟨(-t).toNat,by omega,fun H aL=>?_⟩;rw[show(((-t).toNat:Nat):Int)= -t by omega];have h1:t< -t:=by omega
   simp[aV,wX,Fq];omega
 by_cases mE:sg=0
 ·have hs:(sg==0)=true:=by rw[mE];rfl
  simp only[↓aN,aO,aJ,↓reduceIte,aa,ae,hl,g6,JY,K9,dc',hs,hpt,JT,wn,Tn];refine ft (fun k_ ts H=>∃g2 HQ sg2,k_=0+HQ/\ts.length=60/\gt ts 1=.b9 0 0/\gt ts 5=.int .i64 ((g2:Nat):Int)/\gt ts 6=.int .i64 sg2/\gt ts 9=.int .i64 ((HQ:Nat):Int)/\gt ts 29=.agg [.int .i64 t0,.int .i64 t1,.int .i64 t2,.int .i64 t3]/\gt ts 30=.int .i64 (i:Int)/\H=[.cells .live [.int .i64 t0,.int .i64 t1,.int .i64 t2,.int .i64 t3,.str s0,.str s1,.str s2]]/\(g2<=12)/\(HQ<=12)) (a) ?_ ?_
  rotate_left
  ·refine⟨g,a,t,(by first|omega|rfl|(simp;done)),(by simp only[cP,hl]),?_⟩;simp only[cR,hl,aa,ae,g1,g5,JY,K9]
   iterate 7 refine⟨by first|trivial|rfl|(congr 1;omega)|(simp;done)|(simp;omega),?_⟩
   refine⟨?_,?_⟩
   ·omega
   ·omega
  clear hl g1 g5 g6 JY K9 ts;rintro k_ ts H ⟨g2,HQ,sg2,rfl,hl,g1,g5,g6,g9,JY,K9,rfl,hg2,ha2⟩;refine VS ?_;by_cases haz:HQ=0
  ·subst haz;simp only[↓aN,aO,↓reduceIte,aa,ae,aE,hl,g9,K9,w1];refine dG ?_;refine⟨_,?_,i+1,g2,sg2,rfl,(by simp only[cP,hl]),?_⟩
   ·first|omega|(simp;omega)
   simp only[cR,hl,aa,ae,g1,g5,g6,JY]
   iterate 6 refine⟨by first|trivial|rfl|(congr 1;omega)|(simp;done)|(simp;omega),?_⟩
   refine⟨?_,?_⟩
   ·omega
   ·omega
  ·have Hd:((HQ:Int)!=0)=true:=bne_iff_ne.2 (by omega);have VZ:=fun{c:Bool} {t:Nat}=>qH (E:=E) (c:=c) (t:=t) (k:=.i64) (a:=g2) (b:=HQ) haz
   have iH:=Nat.mod_lt g2 (show 0<HQ by omega);simp only[↓aN,aO,aa,ah,ae,hl,g5,g9,Hd,VZ,hpr];refine dG ?_;refine⟨_,?_,HQ,g2%HQ,sg2,rfl,(by simp only[cP,hl]),?_⟩
   ·first|omega|(simp;omega)
   simp only[cR,hl,aa,ae,g1,g6,JY,K9]
   iterate 7 refine⟨by first|trivial|rfl|(congr 1;omega)|(simp;done)|(simp;omega),?_⟩
   refine⟨?_,?_⟩
   ·omega
   ·omega
 ·have hs:(sg==0)=false:=beq_eq_false_iff_ne.2 mE;simp only[↓aN,aO,aJ,↓reduceIte,aa,ae,hl,g6,JY,K9,dc',hs,hpt,JT,wn,Tn];refine ft (fun k_ ts H=>∃g2 HQ sg2,k_=0+HQ/\ts.length=60/\gt ts 1=.b9 0 0/\gt ts 5=.int .i64 ((g2:Nat):Int)/\gt ts 6=.int .i64 sg2/\gt ts 9=.int .i64 ((HQ:Nat):Int)/\gt ts 29=.agg [.int .i64 t0,.int .i64 t1,.int .i64 t2,.int .i64 t3]/\gt ts 30=.int .i64 (i:Int)/\H=[.cells .live [.int .i64 t0,.int .i64 t1,.int .i64 t2,.int .i64 t3,.str s0,.str s1,.str s2]]/\(g2<=12)/\(HQ<=12)) (a) ?_ ?_
  rotate_left
  ·refine⟨g,a,sg,(by first|omega|rfl|(simp;done)),(by simp only[cP,hl]),?_⟩;simp only[cR,hl,aa,ae,g1,g5,g6,JY,K9]
   iterate 7 refine⟨by first|trivial|rfl|(congr 1;omega)|(simp;done)|(simp;omega),?_⟩
   refine⟨?_,?_⟩
   ·omega
   ·omega
  clear hl g1 g5 g6 JY K9 ts;rintro k_ ts H ⟨g2,HQ,sg2,rfl,hl,g1,g5,g6,g9,JY,K9,rfl,hg2,ha2⟩;refine VS ?_;by_cases haz:HQ=0
  ·subst haz;simp only[↓aN,aO,↓reduceIte,aa,ae,aE,hl,g9,K9,w1];refine dG ?_;refine⟨_,?_,i+1,g2,sg2,rfl,(by simp only[cP,hl]),?_⟩
   ·first|omega|(simp;omega)
   simp only[cR,hl,aa,ae,g1,g5,g6,JY]
   iterate 6 refine⟨by first|trivial|rfl|(congr 1;omega)|(simp;done)|(simp;omega),?_⟩
   refine⟨?_,?_⟩
   ·omega
   ·omega
  ·have Hd:((HQ:Int)!=0)=true:=bne_iff_ne.2 (by omega);have VZ:=fun{c:Bool} {t:Nat}=>qH (E:=E) (c:=c) (t:=t) (k:=.i64) (a:=g2) (b:=HQ) haz
   have iH:=Nat.mod_lt g2 (show 0<HQ by omega);simp only[↓aN,aO,aa,ah,ae,hl,g5,g9,Hd,VZ,hpr];refine dG ?_;refine⟨_,?_,HQ,g2%HQ,sg2,rfl,(by simp only[cP,hl]),?_⟩
   ·first|omega|(simp;omega)
   simp only[cR,hl,aa,ae,g1,g6,JY,K9]
   iterate 7 refine⟨by first|trivial|rfl|(congr 1;omega)|(simp;done)|(simp;omega),?_⟩
   refine⟨?_,?_⟩
   ·omega
   ·omega
theorem J5{t:Int}(h:CD t=true): -12<=t/\t<=12:=by unfold CD at h;simpa using h
theorem CJ{a b:Int}(ha: -12<=a/\a<=12)(hb: -12<=b/\b<=12):∃p,a*b=p/\-144<=p/\p<=144/\aX .i64 (a*b)=p:=by
 have h1:(a*b).natAbs<=12*12:=by rw[Int.natAbs_mul];exact Nat.mul_le_mul (by omega) (by omega)
 exact⟨a*b,rfl,by omega,by omega,wrap_i64 (by omega) (by omega)⟩
theorem SN{a:Int}(ha: -12<=a/\a<=12):∃p,a*a=p/\0<=p/\p<=144/\(p=0->a=0)/\aX .i64 (a*a)=p:=by
 have h1:(a*a).natAbs<=12*12:=by rw[Int.natAbs_mul];exact Nat.mul_le_mul (by omega) (by omega)
 have h2:0<=a*a:=by
  rcases Int.le_total 0 a with h|h
  ·exact Int.mul_nonneg h h
  ·exact Int.mul_nonneg_of_nonpos_of_nonpos h h
 exact⟨a*a,rfl,h2,by omega,fun h=>by rcases Int.mul_eq_zero.1 h with h|h<;>exact h,wrap_i64 (by omega) (by omega)⟩
theorem wr{z:Int}(h1: -100000<=z)(h2:z<=100000):aX .i64 z=z:=wrap_i64 (by omega) (by omega)
def Nv(m:Mo):Prop:=∃S:Int,0<S/\S<=1000/\∃a0 a1 a2 b0 b1 b2 c0 c1 c2:Int,(∀z∈[a0,a1,a2,b0,b1,b2,c0,c1,c2],z.natAbs<=1000)/\m.r1=dW ((1:Int)/(S:Rat)) ⟨a0,a1,a2⟩/\m.r2=dW ((1:Int)/(S:Rat)) ⟨b0,b1,b2⟩/\m.r3=dW ((1:Int)/(S:Rat)) ⟨c0,c1,c2⟩
theorem W5{t0 t1 t2 t3:Int}{s0 s1 s2:List UInt8}(h0:s0.length<=4611686018427387904)(h1:s1.length<=4611686018427387904)(h2:s2.length<=4611686018427387904){c:Int}(hc:aP E 16 [.agg [.int .i64 t0,.int .i64 t1,.int .i64 t2,.int .i64 t3,.str s0,.str s1,.str s2]]=some (.int .i64 c))(HR:c=0->(CD t0=true/\CD t1=true/\CD t2=true/\CD t3=true)/\¬(t0=0/\t1=0/\t2=0/\t3=0)/\kQ 400 s0 s1 s2=0):
  ∃r,aP E 42 [.agg [.int .i64 t0,.int .i64 t1,.int .i64 t2,.int .i64 t3,.str s0,.str s1,.str s2]]=some (.tuple [r,.int .i64 c])/\∃m,MoR r m/\(c=0->m.s=cT 400 s0 s1 s2/\Nv m):=by
 suffices hh:∃u,aP E 42 [.agg [.int .i64 t0,.int .i64 t1,.int .i64 t2,.int .i64 t3,.str s0,.str s1,.str s2]]=some u/\∃r,u=.tuple [r,.int .i64 c]/\∃m,MoR r m/\(c=0->m.s=cT 400 s0 s1 s2/\Nv m)by
  obtain⟨u,e,r,rfl,h⟩:=hh;exact⟨r,e,h⟩
 refine nY avL ?_;intro ts hl g0;unfold c42;by_cases ZG:c=0
 ·obtain⟨⟨k0,k1,k2,k3⟩,hnz,hvc⟩:=HR ZG;subst ZG;have b0:=J5 k0;have b1:=J5 k1;have b2:=J5 k2;have b3:=J5 k3;obtain⟨p00,e00,l00,u00,z00,w00⟩:=SN b0;obtain⟨p11,e11,l11,u11,W8,w11⟩:=SN b1;obtain⟨p22,e22,l22,u22,z22,w22⟩:=SN b2;obtain⟨p33,e33,l33,u33,z33,w33⟩:=SN b3;obtain⟨p01,e01,l01,u01,w01⟩:=CJ b0 b1;obtain⟨p02,e02,l02,u02,w02⟩:=CJ b0 b2;obtain⟨p03,e03,l03,u03,w03⟩:=CJ b0 b3;obtain⟨p12,e12,l12,u12,w12⟩:=CJ b1 b2;obtain⟨p13,e13,l13,u13,w13⟩:=CJ b1 b3;obtain⟨p23,e23,l23,u23,w23⟩:=CJ b2 b3;have hS:0<p00+p11+p22+p33:=by apply Classical.byContradiction;intro hn;exact hnz ⟨z00 (by omega),W8 (by omega),z22 (by omega),z33 (by omega)⟩
  obtain⟨r,hr,ir⟩:=DN (E:=E) h0 h1 h2;obtain⟨jo,ji,jr,jh,kf,jY,kj,j6,kh,j7,ke,j8,rfl,-,-,-,P,O⟩:=bM ir;clear e00 e11 e22 e33 e01 e02 e03 e12 e13 e23;obtain⟨o,ho,io⟩:=kF (E:=E) (n:=1) (by omega) (by omega);obtain⟨s,hs,is⟩:=kF (E:=E) (n:=p00+p11+p22+p33) (by omega) (by omega);have bo:Bq 1 ((1:Int):Rat):=Bq.int (z:=1) (by decide) (by omega);have bs:Bq 10 ((p00+p11+p22+p33:Int):Rat):=Bq.int (z:=p00+p11+p22+p33) (show _<1024 by omega) (by omega);have amK:((p00+p11+p22+p33:Int):Rat)≠0:=by
   intro e
   have:p00+p11+p22+p33=0:=by exact_mod_cast e
   omega
  obtain⟨d,hd,BB⟩:=ya (E:=E) io is bo bs (by omega) amK;obtain⟨Az,Bu,AL,Al,_,_,rfl,-,-,-,-⟩:=bX BB;have po:=jg io;have ps:=jg is;have D:=aW _ BB
  simp(maxSteps:=2000000) (disch:=omega)only[↓aN,aO,aJ,↓reduceIte,bE,aU,ah,ak,bI,an,ao,aq,uA,Tryz.f42,↓arS,↓axd,↓auH,↓axf,ai,aE,g0,hc,hr,O,w00,w11,w22,w33,w01,w02,w03,w12,w13,w23,wr,ho,hs,hd,po,ps,D,List.append_eq]
  generalize uh:p00+p11-p22-p33=a0;have vI:a0.natAbs<=1000:=by omega
  generalize Oy:2*(p12-p03)=a1;have vH:a1.natAbs<=1000:=by omega
  generalize ha2:2*(p13+p02)=a2;have vG:a2.natAbs<=1000:=by omega
  generalize arp:2*(p12+p03)=HW;have aFa:HW.natAbs<=1000:=by omega
  generalize aFS:p00-p11+p22-p33=Hi;have aGK:Hi.natAbs<=1000:=by omega
  generalize aHe:2*(p23-p01)=Eu;have aE6:Eu.natAbs<=1000:=by omega
  generalize HR:2*(p13-p02)=c0;have lc0:c0.natAbs<=1000:=by omega
  generalize vL:2*(p23+p01)=c1;have lc1:c1.natAbs<=1000:=by omega
  generalize uk:p00-p11-p22+p33=c2;have lc2:c2.natAbs<=1000:=by omega
  have bd:=bo.div bs amK;obtain⟨v1,hv1,iv1⟩:=tI (E:=E) (x:=a0) (y:=a1) (z:=a2) (by omega) (by omega) (by omega) (by omega) (by omega) (by omega);have bv1:BV 10 ⟨(a0:Rat),(a1:Rat),(a2:Rat)⟩:=⟨Bq.int (show _<1024 by omega) (by omega),Bq.int (show _<1024 by omega) (by omega),Bq.int (show _<1024 by omega) (by omega)⟩;obtain⟨w1,zY,iw1⟩:=kn (E:=E) iv1 BB bv1 bd (by omega);have pv1:=ja iv1;obtain⟨azm,az2,ay1,azj,ay4,azc,axC,axG,ayE,ayO,avv,auA,rfl,-,-,-,P1,O1⟩:=bM iw1;obtain⟨v2,VV,iv2⟩:=tI (E:=E) (x:=HW) (y:=Hi) (z:=Eu) (by omega) (by omega) (by omega) (by omega) (by omega) (by omega);have bv2:BV 10 ⟨(HW:Rat),(Hi:Rat),(Eu:Rat)⟩:=⟨Bq.int (show _<1024 by omega) (by omega),Bq.int (show _<1024 by omega) (by omega),Bq.int (show _<1024 by omega) (by omega)⟩;obtain⟨w2,Cf,Wr⟩:=kn (E:=E) iv2 BB bv2 bd (by omega);have pv2:=ja iv2;obtain⟨ax5,auG,aAb,avA,avk,axh,axq,avF,awi,ayq,auy,aym,rfl,-,-,-,P2,O2⟩:=bM Wr;obtain⟨v3,hv3,iv3⟩:=tI (E:=E) (x:=c0) (y:=c1) (z:=c2) (by omega) (by omega) (by omega) (by omega) (by omega) (by omega);have bv3:BV 10 ⟨(c0:Rat),(c1:Rat),(c2:Rat)⟩:=⟨Bq.int (show _<1024 by omega) (by omega),Bq.int (show _<1024 by omega) (by omega),Bq.int (show _<1024 by omega) (by omega)⟩;obtain⟨w3,hw3,iw3⟩:=kn (E:=E) iv3 BB bv3 bd (by omega);have pv3:=ja iv3;obtain⟨avc,ax4,ayS,avN,ave,aAl,auD,axK,avg,aze,azX,avr,rfl,-,-,-,P3,O3⟩:=bM iw3;refine ew 4 ?_
  simp(maxSteps:=2000000)only[↓aN,aO,↓aQ,aJ,↓reduceIte,aa,ah,ak,ae,an,ao,aq,ai,aA,hl,uj,zZ,ED,P,O,D,hv1,VV,hv3,zY,Cf,hw3,pv1,pv2,pv3,P1,O1,P2,O2,P3,O3]
  refine⟨_,rfl,⟨_,_,_,_⟩,⟨azm,az2,ay1,azj,ay4,azc,axC,axG,ayE,ayO,avv,auA,ax5,auG,aAb,avA,avk,axh,axq,avF,awi,ayq,auy,aym,avc,ax4,ayS,avN,ave,aAl,auD,axK,avg,aze,azX,avr,jo,ji,jr,jh,kf,jY,kj,j6,kh,j7,ke,j8,rfl,iw1,Wr,iw3,ir⟩,fun _=>⟨rfl,p00+p11+p22+p33,hS,by omega,a0,a1,a2,HW,Hi,Eu,c0,c1,c2,?_,rfl,rfl,rfl⟩⟩;intro z hz;simp only[aMc,aS7,or_false]at hz;rcases hz with rfl|rfl|rfl|rfl|rfl|rfl|rfl|rfl|rfl<;>assumption
 ·have dY:(c !=0)=true:=by rw[bne_iff_ne];exact ZG
  simp only[↓aN,aO,↓aQ,aJ,↓reduceIte,aa,ah,ae,Tryz.f42,hl,g0,hc,dY];exact⟨_,rfl,⟨v0,v0,v0,v0⟩,⟨_,_,_,_,_,_,_,_,_,_,_,_,_,_,_,_,_,_,_,_,_,_,_,_,_,_,_,_,_,_,_,_,_,_,_,_,_,_,_,_,_,_,_,_,_,_,_,_,rfl,vC,vC,vC,vC⟩,fun e=>absurd e ZG⟩
end Go.Proofs.YtblnjkjjedanaaaGreatDoor
namespace Go.Proofs.YtblnjkjjedanaaaGreatDoor
open Go Dv Dv.b7
open Go.Proofs.kY
variable{E:Env}[C:Ctx E]
theorem CW{S D a0 a1 a2 x0 x1 x2:Int}(hS:S≠0)(hD:D≠0):mu (dW (((1:Int):Rat)/(S:Rat)) ⟨(a0:Rat),(a1:Rat),(a2:Rat)⟩) ⟨(x0:Rat)/(D:Rat),(x1:Rat)/(D:Rat),(x2:Rat)/(D:Rat)⟩=((a0*x0+a1*x1+a2*x2:Int):Rat)/((S*D:Int):Rat):=by
 have hSq:=fH hS;have hDq:=fH hD;have h1:((1:Int):Rat)=1:=rfl;unfold mu dW;rw[h1];simp only[aVB,aUo]
 grind
theorem Rl{a b c d e X Y:Rat}(hX:X≠0)(hY:Y≠0):a/X+(b/Y*(c/X)-d/Y*(e/X))=(a*Y+b*c-d*e)/(X*Y):=by grind
theorem Ph{a X Y:Rat}(hX:X≠0)(hY:Y≠0):a/X=(a*Y)/(X*Y):=by grind
theorem BF{a0 a1 a2 x0 x1 x2:Int}{M:Nat}(h0:a0.natAbs<=1000)(h1:a1.natAbs<=1000)(h2:a2.natAbs<=1000)(k0:x0.natAbs<=M)(k1:x1.natAbs<=M)(k2:x2.natAbs<=M):(a0*x0+a1*x1+a2*x2).natAbs<=3000*M:=by have e0:=fe h0 k0;have e1:=fe h1 k1;have e2:=fe h2 k2;omega
theorem ame{b M K:Nat}{m:Mo}{t:Tw}(ht:NM M t)(hm:Nv m)(hs:VF K m.s)(hb:9000*(M*K)<=2^b):CV b (fv (yG m t).qs):=by
 obtain⟨D,x0,x1,x2,y0,y1,y2,hD,bD,⟨bx0,bx1,bx2,by0,by1,by2⟩,rfl⟩:=ht;obtain⟨S,S0,S1,a0,a1,a2,b0,b1,b2,c0,c1,c2,hz,r1,r2,r3⟩:=hm;obtain⟨N,s0,s1,s2,hN,bN,bs0,bs1,bs2,hse⟩:=hs;simp only[aMc,aS7,or_false,forall_eq_or_imp,forall_eq]at hz;obtain⟨z0,z1,z2,z3,z4,z5,z6,z7,z8⟩:=hz;have hS:S≠0:=by omega
 have hX:S*D≠0:=aWx hS hD;have hXq:=fH hX;have Vs:=fH hN;have A0:=BF z0 z1 z2 bx0 bx1 bx2;have A1:=BF z3 z4 z5 bx0 bx1 bx2;have A2:=BF z6 z7 z8 bx0 bx1 bx2;have L0:=BF z0 z1 z2 by0 by1 by2;have L1:=BF z3 z4 z5 by0 by1 by2;have L2:=BF z6 z7 z8 by0 by1 by2;have e1:uq m ⟨(x0:Rat)/(D:Rat),(x1:Rat)/(D:Rat),(x2:Rat)/(D:Rat)⟩=⟨((a0*x0+a1*x1+a2*x2:Int):Rat)/((S*D:Int):Rat),((b0*x0+b1*x1+b2*x2:Int):Rat)/((S*D:Int):Rat),((c0*x0+c1*x1+c2*x2:Int):Rat)/((S*D:Int):Rat)⟩:=by unfold uq;rw[r1,r2,r3,CW hS hD,CW hS hD,CW hS hD]
 have e2:uq m ⟨(y0:Rat)/(D:Rat),(y1:Rat)/(D:Rat),(y2:Rat)/(D:Rat)⟩=⟨((a0*y0+a1*y1+a2*y2:Int):Rat)/((S*D:Int):Rat),((b0*y0+b1*y1+b2*y2:Int):Rat)/((S*D:Int):Rat),((c0*y0+c1*y1+c2*y2:Int):Rat)/((S*D:Int):Rat)⟩:=by unfold uq;rw[r1,r2,r3,CW hS hD,CW hS hD,CW hS hD]
 have hSD:=fe (show S.natAbs<=1000 by omega) bD;generalize a0*x0+a1*x1+a2*x2=P0 at*;generalize b0*x0+b1*x1+b2*x2=P1 at*;generalize c0*x0+c1*x1+c2*x2=P2 at*;generalize a0*y0+a1*y1+a2*y2=Q0 at*;generalize b0*y0+b1*y1+b2*y2=Q1 at*;generalize c0*y0+c1*y1+c2*y2=Q2 at*;generalize S*D=X at*;have e:(yG m ⟨⟨(x0:Rat)/(D:Rat),(x1:Rat)/(D:Rat),(x2:Rat)/(D:Rat)⟩,⟨(y0:Rat)/(D:Rat),(y1:Rat)/(D:Rat),(y2:Rat)/(D:Rat)⟩⟩).qs=[((P0*N:Int):Rat)/((X*N:Int):Rat),((P1*N:Int):Rat)/((X*N:Int):Rat),((P2*N:Int):Rat)/((X*N:Int):Rat),((Q0*N+s1*P2-s2*P1:Int):Rat)/((X*N:Int):Rat),((Q1*N+s2*P0-s0*P2:Int):Rat)/((X*N:Int):Rat),((Q2*N+s0*P1-s1*P0:Int):Rat)/((X*N:Int):Rat)]:=by unfold yG;simp only;rw[e1,e2,hse];unfold Tw.qs CS dH;simp only[aVB,aVG,aUo,List.cons.injEq,and_true];exact⟨Ph hXq Vs,Ph hXq Vs,Ph hXq Vs,Rl hXq Vs,Rl hXq Vs,Rl hXq Vs⟩
 rw[e];have hMK:∀{p n:Int} {k:Nat},p.natAbs<=k*M->n.natAbs<=K->(p*n).natAbs<=k*(M*K):=by intro p n k hp hn;rw[<-aPv];exact fe hp hn
 have Ty:∀{p n:Int} {k:Nat},p.natAbs<=k*M->n.natAbs<=K->(n*p).natAbs<=k*(M*K):=by intro p n k hp hn;rw[Int.mul_comm];exact hMK hp hn
 have f0:=hMK hSD bN;have g0:=hMK A0 bN;have g1:=hMK A1 bN;have g2:=hMK A2 bN;have g3:=hMK L0 bN;have g4:=hMK L1 bN;have g5:=hMK L2 bN;have t12:=Ty A2 bs1;have t21:=Ty A1 bs2;have t20:=Ty A0 bs2;have t02:=Ty A2 bs0;have t01:=Ty A1 bs0;have t10:=Ty A0 bs1;generalize M*K=Y at*;refine oV (aWx hX hN) (by omega) ?_;simp only[aMc,aS7,or_false,forall_eq_or_imp,forall_eq];exact⟨by omega,by omega,by omega,by omega,by omega,by omega⟩
theorem Q5{fJ:List Tw}{m:Mo}{M K:Nat}{v:AV}(hnm:∀t∈fJ,NM M t)(hm:Nv m)(hs:VF K m.s)(hb:9000*(M*K)<=2^440)(hl:fJ.length<=6)(hv:sX v (fJ.map (yG m))):
  ∃o G r,aP E 44 [v]=some o/\vJ o G/\aP E 9 [.agg [.int .i64 6,o,.aH]]=some (.tuple [r,.int .i64 0])/\YI r (fJ.length=6):=by
 have Hk:∀t∈fJ.map (yG m),CV 440 (fv t.qs):=by intro t ht;obtain⟨t',h1,rfl⟩:=List.mem_map.1 ht;exact ame (hnm t' h1) hm hs hb
 obtain⟨hcr,VW⟩:=Ft Hk;have JC:(fJ.map (yG m)).length=fJ.length:=aTV _;have hrl:(jI (fJ.map (yG m))).length=fJ.length:=by unfold jI;rw[aTV,JC]
 have hsm:Small 6 440 (fJ.map (yG m)).length:=by rw[JC];refine⟨by decide,by decide,?_,hl⟩;have h1:2^fJ.length<=2^6:=aQT (by omega) hl;have h2:=aLL 441 h1;exact aNm h2 (by decide)
 obtain⟨o,G,P,ho,hx,hw,hE⟩:=GW (E:=E) hv VW (by omega) hcr hsm;have hE2:rN 6 G.length (fun i=>iN G i) P (gy (SR (jI (fJ.map (yG m))).length (rf (jI (fJ.map (yG m)))))):=by rw[hrl,<-JC];exact hE
 obtain⟨r,hr,yp⟩:=zm (E:=E) tK hcr (aKR _) (by rw[hrl];exact hl) hx hw hE2;obtain⟨s1,s2,s3⟩:=Fb tK hcr hE2;have hEG:rN 6 G.length (fun i=>iN G i) P (gy (SR G.length (rf G))):=hE2.congr (fun x=>hE2.spn (oZ _));have hg:=ZI yp hw hEG s3 (fun h3=>by
  have h2:=Gm (b:=440) (r:=G.length);have h5:G.length=0∨G.length=1∨G.length=2∨G.length=3:=by omega
  rcases h5 with h5|h5|h5|h5<;>rw[h5]at h2⊢<;>simp only[Nat.reducePow]at h2⊢<;>omega)
 refine⟨o,G,r,ho,hx,hr,?_⟩;obtain⟨k,d,a0,a1,a2,b0,b1,b2,h,e,h1,h2,h3⟩:=hg;exact⟨k,d,a0,a1,a2,b0,b1,b2,h,e,h1,fun hk=>by have:=h2 hk;rw[hrl]at s1;omega,h3⟩
section
variable{a0 a1 a2 b0 b1 b2 h:List UInt8}
theorem SL{po pi:Bool}(hc:su true po pi a0 a1 a2 b0 b1 b2 h=0):cT 65536 a0 a1 a2≠v0/\eM (cT 65536 a0 a1 a2)=cT 65536 a0 a1 a2:=by
 unfold su at hc;split at hc
 ·rename_i h0;exact absurd hc h0
 split at hc
 ·exact absurd hc (by decide)
 rename_i h0 h1;have e:cU true a0 a1 a2=cT 65536 a0 a1 a2:=by unfold cU;rw[if_pos rfl]
 rw[e]at h1;refine⟨fun x=>h1 ⟨rfl,.inl x⟩,?_⟩;by_cases hx:eM (cT 65536 a0 a1 a2)=cT 65536 a0 a1 a2
 ·exact hx
 ·exact absurd ⟨rfl,.inr hx⟩ h1
theorem R0{di po:Bool}(hc:su di po true a0 a1 a2 b0 b1 b2 h=0):cN 65536 h=0:=by
 unfold su at hc;split at hc
 ·rename_i h0;exact absurd hc h0
 split at hc
 ·exact absurd hc (by decide)
 split at hc
 ·rename_i h0;exact absurd hc h0
 split at hc
 ·exact absurd hc (by decide)
 unfold jB at hc;rw[if_neg (by decide)]at hc;split at hc
 ·exact absurd hc (by decide)
 exact hc
theorem aai{k d:Int}{cl:Bool}(hc:qS k d cl a0 a1 a2 b0 b1 b2 h=0)(h8:k≠8):(k=0∨k=1∨k=2∨k=3∨k=4∨k=5∨k=6∨k=7)/\su (Rv k) (TC k) (Zj k) a0 a1 a2 b0 b1 b2 h=0/\(k=7->cl=true):=by
 unfold qS at hc;split at hc
 ·exact absurd hc (by decide)
 rename_i h0;split at hc
 ·exact absurd hc (by decide)
 split at hc
 ·exact absurd hc (by decide)
 rename_i h7;refine⟨by omega,hc,fun e=>?_⟩;cases cl
 ·exact absurd ⟨e,rfl⟩ h7
 ·rfl
theorem t60:10^60<=2^200:=aWy rfl
theorem uz{n:Nat}(hn:n<=60):10^n<=2^200:=aNm (vR hn) t60
def TwQ(k:Int)(M:Nat)(fJ:List Tw):Prop:=(∀t∈fJ,NM M t)/\fJ.length<=6/\(fJ.length=6->k=7)
theorem TwQ.of{k:Int}{M:Nat}{fJ:List Tw}(h:∀t∈fJ,NM M t)(hl:fJ.length<=5):TwQ k M fJ:=⟨h,by omega,by omega⟩
theorem ag2{u0 u1 u2:Int}{U:Nat}(hU:1<=U)(b0:u0.natAbs<=U)(b1:u1.natAbs<=U)(b2:u2.natAbs<=U)(j:Nat):NM U (kd (dH ⟨(u0:Rat),(u1:Rat),(u2:Rat)⟩ (eV j))):=by
 have h0:((0:Int):Rat)=0:=rfl;have h1:((1:Int):Rat)=1:=rfl;have key:∀z0 z1 z2:Int,dH ⟨(u0:Rat),(u1:Rat),(u2:Rat)⟩ (eV j)=⟨(z0:Rat),(z1:Rat),(z2:Rat)⟩->z0.natAbs<=U->z1.natAbs<=U->z2.natAbs<=U->NM U (kd (dH ⟨(u0:Rat),(u1:Rat),(u2:Rat)⟩ (eV j))):=by intro z0 z1 z2 e c0 c1 c2;rw[e];exact LX hU c0 c1 c2
 match j with
 |0=>
  refine key 0 u2 (-u1) ?_ (aVe _) b2 (by omega);show dH ⟨(u0:Rat),(u1:Rat),(u2:Rat)⟩ Dy=_
  unfold dH Dy;rw[h0,h1];simp only[V3.mk.injEq,aVy];refine⟨?_,?_,?_⟩<;>grind
 |1=>
  refine key (-u2) 0 u0 ?_ (by omega) (aVe _) b0;show dH ⟨(u0:Rat),(u1:Rat),(u2:Rat)⟩ G4=_
  unfold dH G4;rw[h0,h1];simp only[V3.mk.injEq,aVy];refine⟨?_,?_,?_⟩<;>grind
 |j+2=>
  refine key u1 (-u0) 0 ?_ b1 (by omega) (aVe _);show dH ⟨(u0:Rat),(u1:Rat),(u2:Rat)⟩ G1=_
  unfold dH G1;rw[h0,h1];simp only[V3.mk.injEq,aVy];refine⟨?_,?_,?_⟩<;>grind
end
def jM(a0 a1 a2 b0 b1 b2 h:List UInt8):Nat:=3*(10^(a0.length+a1.length+a2.length)*10^(b0.length+b1.length+b2.length)*10^h.length)
theorem jM1{U P Q:Nat}(hP:1<=P)(hQ:1<=Q):U<=3*(U*P*Q):=by have h1:U<=U*P:=aWw _ hP;have h2:U*P<=U*P*Q:=aWw _ hQ;omega
theorem jM2{U P Q:Nat}(hQ:1<=Q):3*(U*P)<=3*(U*P*Q):=aPQ _ (aWw _ hQ)
theorem jM3{U P Q:Nat}(hU:1<=U)(hQ:1<=Q):3*(1*P)<=3*(U*P*Q):=by have h1:1*P<=U*P:=aLL _ hU;have h2:U*P<=U*P*Q:=aWw _ hQ;omega
theorem jM4{U P Q:Nat}(hP:1<=P)(hQ:1<=Q):3*(U*1)<=3*(U*P*Q):=by have h1:U<=U*P:=aWw _ hP;have h2:U*P<=U*P*Q:=aWw _ hQ;omega
section
variable{a0 a1 a2 b0 b1 b2 h:List UInt8}{u0 u1 u2:Int}
theorem R4(hd:cT 65536 a0 a1 a2=⟨(u0:Rat),(u1:Rat),(u2:Rat)⟩)(k0:u0.natAbs<=10^(a0.length+a1.length+a2.length))(k1:u1.natAbs<=10^(a0.length+a1.length+a2.length))(k2:u2.natAbs<=10^(a0.length+a1.length+a2.length)):NM (jM a0 a1 a2 b0 b1 b2 h) (ed (cT 65536 a0 a1 a2) (cT 65536 b0 b1 b2)):=by rw[hd];exact(Gb (gq _) k0 k1 k2 sK).mono (jM2 (gq _))
theorem abd(hd:cT 65536 a0 a1 a2=⟨(u0:Rat),(u1:Rat),(u2:Rat)⟩)(k0:u0.natAbs<=10^(a0.length+a1.length+a2.length))(k1:u1.natAbs<=10^(a0.length+a1.length+a2.length))(k2:u2.natAbs<=10^(a0.length+a1.length+a2.length)):NM (jM a0 a1 a2 b0 b1 b2 h) (kd (cT 65536 a0 a1 a2)):=by rw[hd];exact(LX (gq _) k0 k1 k2).mono (jM1 (gq _) (gq _))
theorem qa:NM (jM a0 a1 a2 b0 b1 b2 h) (ed Dy (cT 65536 b0 b1 b2))/\NM (jM a0 a1 a2 b0 b1 b2 h) (ed G4 (cT 65536 b0 b1 b2))/\NM (jM a0 a1 a2 b0 b1 b2 h) (ed G1 (cT 65536 b0 b1 b2)):=by
 refine⟨?_,?_,?_⟩
 ·exact(Gb (u0:=1) (u1:=0) (u2:=0) (aKR 1) (by decide) (by decide) (by decide) sK).mono (jM3 (gq _) (gq _))
 ·exact(Gb (u0:=0) (u1:=1) (u2:=0) (aKR 1) (by decide) (by decide) (by decide) sK).mono (jM3 (gq _) (gq _))
 ·exact(Gb (u0:=0) (u1:=0) (u2:=1) (aKR 1) (by decide) (by decide) (by decide) sK).mono (jM3 (gq _) (gq _))
theorem xS:NM (jM a0 a1 a2 b0 b1 b2 h) (kd Dy)/\NM (jM a0 a1 a2 b0 b1 b2 h) (kd G4)/\NM (jM a0 a1 a2 b0 b1 b2 h) (kd G1):=by
 have h1:1<=jM a0 a1 a2 b0 b1 b2 h:=aNm (gq _) (jM1 (gq _) (gq _));refine⟨?_,?_,?_⟩
 ·exact(LX (u0:=1) (u1:=0) (u2:=0) (aKR 1) (by decide) (by decide) (by decide)).mono h1
 ·exact(LX (u0:=0) (u1:=1) (u2:=0) (aKR 1) (by decide) (by decide) (by decide)).mono h1
 ·exact(LX (u0:=0) (u1:=0) (u2:=1) (aKR 1) (by decide) (by decide) (by decide)).mono h1
theorem RR{k:Int}{ts:List Tw}(hd:cT 65536 a0 a1 a2=⟨(u0:Rat),(u1:Rat),(u2:Rat)⟩)(k0:u0.natAbs<=10^(a0.length+a1.length+a2.length))(k1:u1.natAbs<=10^(a0.length+a1.length+a2.length))(k2:u2.natAbs<=10^(a0.length+a1.length+a2.length))(hp:SP (cT 65536 a0 a1 a2) ts):TwQ k (jM a0 a1 a2 b0 b1 b2 h) ts:=by
 obtain⟨rest,rfl,hl,hr⟩:=hp;rw[hd]at hr⊢;refine .of ?_ (by simp only[aMm];omega);intro t ht;rcases aMc.1 ht with rfl|ht
 ·exact(Gb (gq _) k0 k1 k2 (S8 (aKR 1))).mono (jM4 (gq _) (gq _))
 ·obtain⟨j,rfl⟩:=hr t ht;exact(ag2 (gq _) k0 k1 k2 j).mono (jM1 (gq _) (gq _))
theorem Tb{n D:Int}(hd:cT 65536 a0 a1 a2=⟨(u0:Rat),(u1:Rat),(u2:Rat)⟩)(k0:u0.natAbs<=10^(a0.length+a1.length+a2.length))(k1:u1.natAbs<=10^(a0.length+a1.length+a2.length))(k2:u2.natAbs<=10^(a0.length+a1.length+a2.length))(hD:D≠0)(bn:n.natAbs<=10^h.length)(bD:D.natAbs<=10^h.length):NM (jM a0 a1 a2 b0 b1 b2 h) (Bs (ed (cT 65536 a0 a1 a2) (cT 65536 b0 b1 b2)) (kd (dW ((n:Rat)/(D:Rat)) (cT 65536 a0 a1 a2)))):=by rw[hd];exact W9 (gq _) k0 k1 k2 sK hD bD bn
end
theorem XB{k d:Int}{cl:Bool}{a0 a1 a2 b0 b1 b2 h:List UInt8}(hs:a0.length+a1.length+a2.length+(b0.length+b1.length+b2.length)+h.length<=60)(hc:qS k d cl a0 a1 a2 b0 b1 b2 h=0)(h8:k≠8):
  ∃v fJ,aP E 40 [bO k d cl a0 a1 a2 b0 b1 b2 h]=some v/\sX v fJ/\TwQ k (jM a0 a1 a2 b0 b1 b2 h) fJ:=by
 obtain⟨hk,hF,h7⟩:=aai hc h8;have bp:BV 201 (cT 65536 b0 b1 b2):=sK.bits (uz (by omega));have bd:BV 201 (cT 65536 a0 a1 a2):=sK.bits (uz (by omega));have XI:Rv k=true->∃u0 u1 u2:Int,cT 65536 a0 a1 a2=⟨(u0:Rat),(u1:Rat),(u2:Rat)⟩/\u0.natAbs<=10^(a0.length+a1.length+a2.length)/\u1.natAbs<=10^(a0.length+a1.length+a2.length)/\u2.natAbs<=10^(a0.length+a1.length+a2.length):=by intro e;rw[e]at hF;obtain⟨f1,f2⟩:=SL hF;exact afE sK f1 f2
 rcases hk with rfl|rfl|rfl|rfl|rfl|rfl|rfl|rfl
 ·obtain⟨r,hr,hT⟩:=JX (E:=E) (d:=d) (cl:=cl) (a0:=a0) (a1:=a1) (a2:=a2) (b0:=b0) (b1:=b1) (b2:=b2) (h:=h) (by omega) (by omega) (by omega) (by omega) (by omega) (by omega);exact⟨r,_,hr,hT,.of (by simp) (by simp)⟩
 ·obtain⟨u0,u1,u2,hd,k0,k1,k2⟩:=XI rfl;obtain⟨r,hr,hT⟩:=Ay (E:=E) (d:=d) (cl:=cl) (h:=h) (by omega) (by omega) (by omega) (by omega) (by omega) (by omega) bd bp (by omega);exact⟨r,_,hr,hT,.of (by simp only[aMh,forall_eq];exact R4 hd k0 k1 k2) (by simp)⟩
 ·obtain⟨u0,u1,u2,hd,k0,k1,k2⟩:=XI rfl;obtain⟨r,hr,hT⟩:=A5 (E:=E) (d:=d) (cl:=cl) (h:=h) (by omega) (by omega) (by omega) (by omega) (by omega) (by omega) bd bp (by omega);exact⟨r,_,hr,hT,.of (by simp only[aMh,forall_eq];exact abd hd k0 k1 k2) (by simp)⟩
 ·obtain⟨u0,u1,u2,hd,k0,k1,k2⟩:=XI rfl;have hpi:=R0 (di:=Rv 3) (po:=TC 3) hF;obtain⟨n,D,hD,bn,bD,he⟩:=LW hpi;have hq:(if cN 65536 h=0 then fh h else 0)=(n:Rat)/(D:Rat):=by rw[if_pos hpi,he]
  have h60:=uz (n:=h.length) (by omega);have bq:Bq 201 (if cN 65536 h=0 then fh h else 0):=by rw[hq];exact fO hD (by omega) (by omega)
  obtain⟨r,hr,hT⟩:=Ba (E:=E) (d:=d) (cl:=cl) (h:=h) (by omega) (by omega) (by omega) (by omega) (by omega) (by omega) (by omega) bq bd bp (by omega) (by omega);rw[hq]at hT;exact⟨r,_,hr,hT,.of (by simp only[aMh,forall_eq];exact Tb hd k0 k1 k2 hD bn bD) (by simp)⟩
 ·obtain⟨u0,u1,u2,hd,k0,k1,k2⟩:=XI rfl;obtain⟨r,hr,hT⟩:=qJ (E:=E) (d:=d) (cl:=cl) (h:=h) (by omega) (by omega) (by omega) (by omega) (by omega) (by omega) bd bp (by omega);exact⟨r,_,hr,hT,.of (by simp only[aMc,aS7,or_false,forall_eq_or_imp,forall_eq];exact⟨R4 hd k0 k1 k2,abd hd k0 k1 k2⟩) (by simp)⟩
 ·obtain⟨r,hr,hT⟩:=Bh (E:=E) (d:=d) (cl:=cl) (a0:=a0) (a1:=a1) (a2:=a2) (h:=h) (by omega) (by omega) (by omega) (by omega) (by omega) (by omega) bp (by omega);exact⟨r,_,hr,hT,.of (by simp only[aMc,aS7,or_false,forall_eq_or_imp,forall_eq];exact⟨qa.1,qa.2.1,qa.2.2⟩) (by simp)⟩
 ·obtain⟨u0,u1,u2,hd,k0,k1,k2⟩:=XI rfl;obtain⟨r,hr,ts,hT,hP⟩:=AI (E:=E) (d:=d) (cl:=cl) (b0:=b0) (b1:=b1) (b2:=b2) (h:=h) (by omega) (by omega) (by omega) (by omega) (by omega) (by omega) bd (by omega);exact⟨r,ts,hr,hT,RR hd k0 k1 k2 hP⟩
 ·obtain⟨r,hr,hT⟩:=KN (E:=E) (d:=d) (cl:=cl) (a0:=a0) (a1:=a1) (a2:=a2) (h:=h) (by omega) (by omega) (by omega) (by omega) (by omega) (by omega) bp (by omega);exact⟨r,_,hr,hT,⟨by simp only[aMc,aS7,or_false,forall_eq_or_imp,forall_eq];exact⟨qa.1,qa.2.1,qa.2.2,xS.1,xS.2.1,xS.2.2⟩,by simp,fun _=>rfl⟩⟩
namespace X1
variable{E:Env}[C:ou E]
theorem ad4{k d:Int}{cl:Bool}{a0 a1 a2 b0 b1 b2 h:List UInt8}(hs:a0.length+a1.length+a2.length+(b0.length+b1.length+b2.length)+h.length<=60)(hc:qS k d cl a0 a1 a2 b0 b1 b2 h=0)(h8:k≠8):
  ∀q0 q1 q2 q3,∃r H' fJ,de E 40 [bO k d cl a0 a1 a2 b0 b1 b2 h] [q0,q1,q2,q3]=some (r,H')/\TwO q0 q1 q2 q3 fJ r H'/\TwQ k (jM a0 a1 a2 b0 b1 b2 h) fJ:=by
 obtain⟨hk,hF,h7⟩:=aai hc h8;have bp:BV 201 (cT 65536 b0 b1 b2):=sK.bits (uz (by omega));have bd:BV 201 (cT 65536 a0 a1 a2):=sK.bits (uz (by omega));have XI:Rv k=true->∃u0 u1 u2:Int,cT 65536 a0 a1 a2=⟨(u0:Rat),(u1:Rat),(u2:Rat)⟩/\u0.natAbs<=10^(a0.length+a1.length+a2.length)/\u1.natAbs<=10^(a0.length+a1.length+a2.length)/\u2.natAbs<=10^(a0.length+a1.length+a2.length):=by intro e;rw[e]at hF;obtain⟨f1,f2⟩:=SL hF;exact afE sK f1 f2
 intro q0 q1 q2 q3;rcases hk with rfl|rfl|rfl|rfl|rfl|rfl|rfl|rfl
 ·obtain⟨r,H,hr,hT⟩:=Tk (E:=E) (q0:=q0) (q1:=q1) (q2:=q2) (q3:=q3) (d:=d) (cl:=cl) (a0:=a0) (a1:=a1) (a2:=a2) (b0:=b0) (b1:=b1) (b2:=b2) (h:=h) (by omega) (by omega) (by omega) (by omega) (by omega) (by omega);exact⟨r,H,_,hr,hT,.of (by simp) (by simp)⟩
 ·obtain⟨u0,u1,u2,hd,k0,k1,k2⟩:=XI rfl;obtain⟨r,H,hr,hT⟩:=U5 (E:=E) (q0:=q0) (q1:=q1) (q2:=q2) (q3:=q3) (d:=d) (cl:=cl) (h:=h) (by omega) (by omega) (by omega) (by omega) (by omega) (by omega) bd bp (by omega);exact⟨r,H,_,hr,hT,.of (by simp only[aMh,forall_eq];exact R4 hd k0 k1 k2) (by simp)⟩
 ·obtain⟨u0,u1,u2,hd,k0,k1,k2⟩:=XI rfl;obtain⟨r,H,hr,hT⟩:=Ug (E:=E) (q0:=q0) (q1:=q1) (q2:=q2) (q3:=q3) (d:=d) (cl:=cl) (h:=h) (by omega) (by omega) (by omega) (by omega) (by omega) (by omega) bd bp (by omega);exact⟨r,H,_,hr,hT,.of (by simp only[aMh,forall_eq];exact abd hd k0 k1 k2) (by simp)⟩
 ·obtain⟨u0,u1,u2,hd,k0,k1,k2⟩:=XI rfl;have hpi:=R0 (di:=Rv 3) (po:=TC 3) hF;obtain⟨n,D,hD,bn,bD,he⟩:=LW hpi;have hq:(if cN 65536 h=0 then fh h else 0)=(n:Rat)/(D:Rat):=by rw[if_pos hpi,he]
  have h60:=uz (n:=h.length) (by omega);have bq:Bq 201 (if cN 65536 h=0 then fh h else 0):=by rw[hq];exact fO hD (by omega) (by omega)
  obtain⟨r,H,hr,hT⟩:=TP (E:=E) (q0:=q0) (q1:=q1) (q2:=q2) (q3:=q3) (d:=d) (cl:=cl) (h:=h) (by omega) (by omega) (by omega) (by omega) (by omega) (by omega) (by omega) bq bd bp (by omega) (by omega);rw[hq]at hT;exact⟨r,H,_,hr,hT,.of (by simp only[aMh,forall_eq];exact Tb hd k0 k1 k2 hD bn bD) (by simp)⟩
 ·obtain⟨u0,u1,u2,hd,k0,k1,k2⟩:=XI rfl;obtain⟨r,H,hr,hT⟩:=Tr (E:=E) (q0:=q0) (q1:=q1) (q2:=q2) (q3:=q3) (d:=d) (cl:=cl) (h:=h) (by omega) (by omega) (by omega) (by omega) (by omega) (by omega) bd bp (by omega);exact⟨r,H,_,hr,hT,.of (by simp only[aMc,aS7,or_false,forall_eq_or_imp,forall_eq];exact⟨R4 hd k0 k1 k2,abd hd k0 k1 k2⟩) (by simp)⟩
 ·obtain⟨r,H,hr,hT⟩:=U8 (E:=E) (q0:=q0) (q1:=q1) (q2:=q2) (q3:=q3) (d:=d) (cl:=cl) (a0:=a0) (a1:=a1) (a2:=a2) (h:=h) (by omega) (by omega) (by omega) (by omega) (by omega) (by omega) bp (by omega);exact⟨r,H,_,hr,hT,.of (by simp only[aMc,aS7,or_false,forall_eq_or_imp,forall_eq];exact⟨qa.1,qa.2.1,qa.2.2⟩) (by simp)⟩
 ·obtain⟨u0,u1,u2,hd,k0,k1,k2⟩:=XI rfl;obtain⟨r,H,hr,ts,hT,hP⟩:=Uc (E:=E) (q0:=q0) (q1:=q1) (q2:=q2) (q3:=q3) (d:=d) (cl:=cl) (b0:=b0) (b1:=b1) (b2:=b2) (h:=h) (by omega) (by omega) (by omega) (by omega) (by omega) (by omega) bd (by omega);exact⟨r,H,ts,hr,hT,RR hd k0 k1 k2 hP⟩
 ·obtain⟨r,H,hr,hT⟩:=T6 (E:=E) (q0:=q0) (q1:=q1) (q2:=q2) (q3:=q3) (d:=d) (cl:=cl) (a0:=a0) (a1:=a1) (a2:=a2) (h:=h) (by omega) (by omega) (by omega) (by omega) (by omega) (by omega) bp (by omega);exact⟨r,H,_,hr,hT,⟨by simp only[aMc,aS7,or_false,forall_eq_or_imp,forall_eq];exact⟨qa.1,qa.2.1,qa.2.2,xS.1,xS.2.1,xS.2.2⟩,by simp,fun _=>rfl⟩⟩
end X1
theorem t202:3*10^60<=2^202:=aWy rfl
theorem avb:9000*(3*10^60)<=2^440:=by decide +kernel
theorem aft{a0 a1 a2 b0 b1 b2 h:List UInt8}:jM a0 a1 a2 b0 b1 b2 h=3*10^(a0.length+a1.length+a2.length+(b0.length+b1.length+b2.length)+h.length):=by unfold jM;rw[<-aQ3,<-aQ3]
theorem TwQ.bts{k:Int}{a0 a1 a2 b0 b1 b2 h:List UInt8}{fJ:List Tw}(hs:a0.length+a1.length+a2.length+(b0.length+b1.length+b2.length)+h.length<=60)(hq:TwQ k (jM a0 a1 a2 b0 b1 b2 h) fJ):BTs 203 fJ:=by refine(Ft (b:=202) fun t ht=>(hq.1 t ht).cv ?_).2;rw[aft];exact aNm (aPQ 3 (vR hs)) t202
theorem Tq{k d:Int}{cl:Bool}{a0 a1 a2 b0 b1 b2 h:List UInt8}(hs:a0.length+a1.length+a2.length+(b0.length+b1.length+b2.length)+h.length<=60):
  ∃r,aP E 12 [bO k d cl a0 a1 a2 b0 b1 b2 h]=some (.tuple [r,.int .i64 (if qS k d cl a0 a1 a2 b0 b1 b2 h≠0 then qS k d cl a0 a1 a2 b0 b1 b2 h else if k=8 then 12 else 0)])/\aU r=true:=by
 by_cases hc:qS k d cl a0 a1 a2 b0 b1 b2 h=0
 ·rw[if_neg (by simpa using hc)];by_cases h8:k=8
  ·subst h8;obtain⟨r,hr,rfl⟩:=Mg (E:=E) (d:=d) (cl:=cl) (a0:=a0) (a1:=a1) (a2:=a2) (b0:=b0) (b1:=b1) (b2:=b2) (h:=h) (by omega) (by omega) (by omega) (by omega) (by omega) (by omega) (by omega) hc;rw[if_pos rfl];exact⟨_,hr,rfl⟩
  ·rw[if_neg h8];obtain⟨v,fJ,hv,hT,hq⟩:=XB (E:=E) hs hc h8;exact Q6 (E:=E) (by omega) (by omega) (by omega) (by omega) (by omega) (by omega) (by omega) hc h8 hv hT (hq.bts hs) (by omega) hq.2.1
 ·obtain⟨r,hr,rfl⟩:=TH (E:=E) (by omega) (by omega) (by omega) (by omega) (by omega) (by omega) (by omega) hc;rw[if_pos hc];exact⟨_,hr,rfl⟩
theorem aaW{m:Mo}{K:Nat}(hm:Nv m)(hs:VF K m.s)(hK:K<=2^200):BM 201 m:=by
 obtain⟨S,S0,S1,a0,a1,a2,b0,b1,b2,c0,c1,c2,hz,r1,r2,r3⟩:=hm;simp only[aMc,aS7,or_false,forall_eq_or_imp,forall_eq]at hz;obtain⟨z0,z1,z2,z3,z4,z5,z6,z7,z8⟩:=hz;have hS:Bq 11 (((1:Int):Rat)/(S:Rat)):=fO (by omega) (by decide) (by omega);have bi:∀z:Int,z.natAbs<=1000->Bq 10 (z:Rat):=fun z h=>Bq.int (by omega) (by omega)
 refine⟨?_,?_,?_,hs.bits hK⟩
 ·rw[r1];exact(BV.scale hS ⟨bi _ z0,bi _ z1,bi _ z2⟩).mono (by omega)
 ·rw[r2];exact(BV.scale hS ⟨bi _ z3,bi _ z4,bi _ z5⟩).mono (by omega)
 ·rw[r3];exact(BV.scale hS ⟨bi _ z6,bi _ z7,bi _ z8⟩).mono (by omega)
namespace X1
variable{E:Env}[C:ou E]
theorem YE{k d:Int}{cl:Bool}{a0 a1 a2 b0 b1 b2 h:List UInt8}{t0 t1 t2 t3:Int}{s0 s1 s2:List UInt8}(hs:a0.length+a1.length+a2.length+(b0.length+b1.length+b2.length)+h.length+(s0.length+s1.length+s2.length)<=60){c:Int}(MY:aP E0 16 [.agg [.int .i64 t0,.int .i64 t1,.int .i64 t2,.int .i64 t3,.str s0,.str s1,.str s2]]=some (.int .i64 c))(HR:c=0->(CD t0=true/\CD t1=true/\CD t2=true/\CD t3=true)/\¬(t0=0/\t1=0/\t2=0/\t3=0)/\kQ 400 s0 s1 s2=0):
  ∃r,aP E 13 [bO k d cl a0 a1 a2 b0 b1 b2 h,.agg [.int .i64 t0,.int .i64 t1,.int .i64 t2,.int .i64 t3,.str s0,.str s1,.str s2]]=some (.tuple [r,.int .i64 (if qS k d cl a0 a1 a2 b0 b1 b2 h≠0 then qS k d cl a0 a1 a2 b0 b1 b2 h else c)])/\
   ∃k' d' cl' EG G9 Jf HW Hi Eu h',r=bO k' d' cl' EG G9 Jf HW Hi Eu h'/\(∀s∈[EG,G9,Jf,HW,Hi,Eu,h'],s.length<=65536)/\
    ((qS k d cl a0 a1 a2 b0 b1 b2 h≠0∨c≠0)->r=bO 0 0 false [] [] [] [] [] [] [])/\
    (qS k d cl a0 a1 a2 b0 b1 b2 h=0->c=0->qS k' d' cl' EG G9 Jf HW Hi Eu h'=0):=by
 have TW:∀s∈[([]:List UInt8),[],[],[],[],[],[]],s.length<=65536:=by
  intro s hs;simp only[aMc,aS7,or_false]at hs;rcases hs with rfl|rfl|rfl|rfl|rfl|rfl|rfl<;>exact aVe _
 obtain⟨mv,OW,m,hm,RC⟩:=W5 (E:=E0) (t0:=t0) (t1:=t1) (t2:=t2) (t3:=t3) (s0:=s0) (s1:=s1) (s2:=s2) (by omega) (by omega) (by omega) MY HR;by_cases hc:qS k d cl a0 a1 a2 b0 b1 b2 h=0
 ·rw[if_neg (by simpa using hc)];by_cases ZG:c=0
  ·subst ZG;obtain⟨Vv,htu⟩:=RC rfl;by_cases h8:k=8
   ·subst h8;obtain⟨r,hr,rfl⟩:=Qn (E:=E) (d:=d) (cl:=cl) (a0:=a0) (a1:=a1) (a2:=a2) (b0:=b0) (b1:=b1) (b2:=b2) (h:=h) (by omega) (by omega) (by omega) (by omega) (by omega) (by omega) (by omega) hc OW hm;refine⟨_,hr,8,d,cl,a0,a1,a2,b0,b1,b2,h,rfl,?_,fun e=>?_,fun _ _=>hc⟩
    ·simp only[aMc,aS7,or_false,forall_eq_or_imp,forall_eq];exact⟨by omega,by omega,by omega,by omega,by omega,by omega,by omega⟩
    ·rcases e with e|e
     ·exact absurd hc e
     ·exact absurd rfl e
   ·have hvf:VF (10^(s0.length+s1.length+s2.length)) m.s:=by rw[Vv];exact sK
    have hb:9000*(jM a0 a1 a2 b0 b1 b2 h*10^(s0.length+s1.length+s2.length))<=2^440:=by rw[aft,aPv,<-aQ3];exact aNm (aPQ _ (aPQ _ (vR hs))) avb
    obtain⟨r,hr,k',d',EG,G9,Jf,HW,Hi,Eu,h',e,hlen,hF,hg⟩:=abM (E:=E) (k:=k) (d:=d) (cl:=cl) (a0:=a0) (a1:=a1) (a2:=a2) (b0:=b0) (b1:=b1) (b2:=b2) (h:=h) (by omega) (by omega) (by omega) (by omega) (by omega) (by omega) (by omega) hc h8 OW hm (l:=201) (q:=203) (aaW htu hvf (uz (by omega))) (by omega) (Q:=TwQ k (jM a0 a1 a2 b0 b1 b2 h)) (ad4 (E:=E) (by omega) hc h8) (fun fJ hq=>⟨hq.bts (by omega),hq.2.1⟩) (F:=k=7) (fun fJ v hq hv=>by
      obtain⟨o,G,r,h1,h2,h3,h4⟩:=Q5 (E:=E0) hq.1 htu hvf hb hq.2.1 hv;obtain⟨k',d',EG,G9,Jf,HW,Hi,Eu,h',e,g1,g2,g3⟩:=h4;exact⟨o,G,r,h1,h2,h3,k',d',EG,G9,Jf,HW,Hi,Eu,h',e,g1,fun hk=>hq.2.2 (g2 hk),g3⟩)
    refine⟨r,hr,k',d',cl,EG,G9,Jf,HW,Hi,Eu,h',e,hlen,fun e=>?_,fun _ _=>hg (fun hk=>(aai hc h8).2.2 (hF hk))⟩;rcases e with e|e
    ·exact absurd hc e
    ·exact absurd rfl e
  ·obtain⟨r,hr,rfl⟩:=Vh (E:=E) (k:=k) (d:=d) (cl:=cl) (a0:=a0) (a1:=a1) (a2:=a2) (b0:=b0) (b1:=b1) (b2:=b2) (h:=h) (by omega) (by omega) (by omega) (by omega) (by omega) (by omega) (by omega) hc OW hm ZG;exact⟨_,hr,0,0,false,[],[],[],[],[],[],[],rfl,TW,fun _=>rfl,fun _ e=>absurd e ZG⟩
 ·rw[if_pos hc];obtain⟨r,hr,rfl⟩:=aam (E:=E) (t0:=t0) (t1:=t1) (t2:=t2) (t3:=t3) (s0:=s0) (s1:=s1) (s2:=s2) (k:=k) (d:=d) (cl:=cl) (a0:=a0) (a1:=a1) (a2:=a2) (b0:=b0) (b1:=b1) (b2:=b2) (h:=h) (by omega) (by omega) (by omega) (by omega) (by omega) (by omega) (by omega) hc;exact⟨_,hr,0,0,false,[],[],[],[],[],[],[],rfl,TW,fun _=>rfl,fun e=>absurd e hc⟩
end X1
end Go.Proofs.YtblnjkjjedanaaaGreatDoor
