/- Lemmas for AssemblyChecks; no condition. -/
import Derived.Test.YtmkjgfnicfpjpaaGreatDoorTav
set_option linter.all false
set_option maxHeartbeats 100000000
set_option maxRecDepth 100000
noncomputable section
open List renaming getElem?_append_left->aNB,length_append->aLk,getElem?_set_ne->aNt,append_assoc->aTs,getElem?_eq_some_iff->aKB,set_append_left->aVt,getElem?_set_self->aNv,mem_singleton->aMs,getElem_mem->aLr,mem_append->aMi,flatten_append->aWd,length_pos_iff->aSc,getElem?_eq_getElem->aLh,flatten_cons->aO8,getElem?_modify->aWe,mem_of_mem_take->aQN,mem_of_mem_drop->aOD,getElem?_map->aMf
open Nat renaming add_assoc->aK5,reduceLT->aa,reduceEqDiff->ae,reduceAdd->ah,reduceLeDiff->ai,reduceBEq->aj
open Bool renaming and_eq_true->aMh
open Int renaming reduceLE->an,reduceToNat->ar
namespace Go.Proofs.YtmkjgfnicfpjpaaGreatDoor
open Go Dv Dv.dR
variable{E:Env}[C:Ctx E]
def p13:(2:Nat)^13=8192:=by decide
def p28:(2:Nat)^28=268435456:=by decide
def L8{z:Int}(h: -4096<=z/\z<=4096):Bq 13 (z:Rat):=Bq.int (by rw[p13];omega) (by decide)
def L9{z:Int}(h: -134217728<=z/\z<=134217728):Bq 28 (z:Rat):=Bq.int (by rw[p28];omega) (by decide)
def bn2{n j:Nat}(h:3<=n):(2==n+j)=false:=beq_eq_false_iff_ne.2 (by omega)
def an7{n j:Nat}(h:3<=n):(n+j==2)=false:=beq_eq_false_iff_ne.2 (by omega)
def YZ{H:Hp}{b k:Nat}(h:b≠k:=by omega):(H.modify b ct.j7)[k]?=H[k]?:=by rw[aWe];cases H[k]?<;>simp[h]
def auD{H:Hp}{b:Nat}{cs:List AV}(h:H[b]?=some (.cells .live cs)):(H.modify b ct.j7)[b]?=some (.cells .ro cs):=by rw[aWe,h];simp[ct.j7]
def avJ{N:I3}(h:N≠I3.zr):(⟨(N.x:Rat),(N.y:Rat),(N.z:Rat)⟩:V3)≠v0:=by
 intro e;apply h;obtain⟨x,y,z⟩:=N;unfold v0 at e;injection e with e1 e2 e3
 have f1:x=0:=by exact_mod_cast e1
 have f2:y=0:=by exact_mod_cast e2
 have f3:z=0:=by exact_mod_cast e3
 subst f1;subst f2;subst f3;rfl
def avp{gs:List Fc}{k:Nat}(h:k<gs.length):fG false 1 (Iw gs) k=some (.aK (nA gs[k].2) gs[k].2.length):=by
 rw[gI];unfold Iw
 rw[aMf,aLh h];rfl
def alT{gs:List Fc}{k:Nat}(h:k<gs.length):fG true 4 (Iu gs) (k*4)=some (.agg (yE gs[k].1)):=by unfold Iu;rw[aha (l:=gs.map (·.1)) (by simpa using h),List.getElem_map]
abbrev Fks:Type:=List Fk
def ad1{bG:List I3}(hn:bG.length<=8):
  ∃r,aR E 91 [.agg [kO bG]]=some r/\∃(sh:List AV) (c:Int),r=.tuple [.agg sh,.int .i64 c]/\((c≠0/\sh=[.aH,.aH,.aH])∨(c=0/\∃s:Sh,qV s/\sh=qk s)):=by
 have pp:=tP bG;obtain⟨r,hr,c,rfl,hc⟩:=Mh (E:=E) hn;unfold kO at hr;refine qj ar7 ?_;intro ts hl g0;unfold c91;unfold kO at g0;by_cases Jn:c=0
 rotate_left
 ·have d0:(c !=0)=true:=by simpa using Jn
  simp only[↓aL,aM,↓aT,aJ,↓reduceIte,aa,ah,ae,Tryz.f91,hl,g0,hr,d0];exact⟨_,c,rfl,.inl ⟨Jn,rfl⟩⟩
 have K:=hc Jn;subst Jn;have d0:((0:Int)!=0)=false:=by decide
 simp only[↓aL,aM,↓aT,aJ,↓reduceIte,aa,ah,ae,Tryz.f91,hl,g0,hr,d0];refine cE (fun k_ ts H=>∃i:Nat,∃v:AV,∃vs:Rws,∃H1:Hp,k_=(bG.length-i:Nat)/\ts.length=86/\gt ts 1=.bI 0 0/\gt ts 2=.bI 1 0/\gt ts 5=.bI 2 0/\gt ts 22=.aK (oC bG) bG.length/\gt ts 23=.int .i64 (bG.length:Int)/\gt ts 24=.int .i64 (i:Int)/\H=H1/\(i<=bG.length)/\(∀r∈vs,gK 13 r)/\(vs.length=i)/\(H1[0]?=some (.cells .live [.aK (oC bG) bG.length]))/\(H1[1]?=some (.cells .live [.aH,.aH,.aH]))/\(H1[2]?=some (.cells .live [v,.aH,.aH]))/\(uo 12 3 v H1 vs.length vs.flatten)) (bG.length) ?_ ?_
 rotate_left
 ·refine⟨0,.aH,[],[.cells .live [.aK (oC bG) bG.length],.cells .live [.aH,.aH,.aH],.cells .live [.aH,.aH,.aH]],(by first|omega|rfl|simp),(by simp[bc,hl]),?_⟩;simp only[aZ,hl,aa,ae]
  iterate 7 refine cG ?_
  refine⟨?_,?_,?_,?_,?_,?_,?_⟩
  ·first|omega|trivial
  ·first|(intro r hr;cases hr)|trivial
  ·first|rfl|trivial
  ·first|rfl|trivial
  ·first|rfl|trivial
  ·first|rfl|trivial
  ·first|exact .inl ⟨rfl,rfl,rfl⟩|trivial
 clear hl g0 ts;rintro k_ ts H ⟨i,v,vs,H1,rfl,hl,g1,g2,g5,g22,g23,g24,rfl,hi,hv,hvl,h0,h1,h2,hs⟩;refine VS ?_;by_cases hd:i<bG.length
 ·have d1:decide ((i:Int)<(bG.length:Int))=true:=bh;have ci:=eT (i:=i) (n:=bG.length) hd;have mZ:=wz (z:=(i:Int)+1) (m:=i+1);have pi:=mU (bG:=bG) hd;have hB:=K.C3.at i;obtain⟨r,hr,hVr⟩:=LC (E:=E) (x:=(fh bG i).x) (y:=(fh bG i).y) (z:=(fh bG i).z) (by have:=hB.1;omega) (by have:=hB.1;omega) (by have:=hB.2.1;omega) (by have:=hB.2.1;omega) (by have:=hB.2.2;omega) (by have:=hB.2.2;omega);obtain⟨xp,we,xq,wg,zf,y8,zg,y9,zj,za,zk,zd,rfl,-⟩:=id hVr;have o5:gK 13 [.bool xp,we,.bool xq,wg,.bool zf,y8,.bool zg,y9,.bool zj,za,.bool zk,zd]:=⟨_,hVr,L8 hB.1,L8 hB.2.1,L8 hB.2.2⟩;have ho:=o5.one;simp only[v3]at pi;have MT:3<=H.length:=by have:=(aKB.1 h2).1;omega
  have c20:∀{T:Hp},cellAt (H++T) 2 0=some v:=by intro T;rw[bX,aNB (by omega),h2];rfl
  have n2:=fun{j:Nat}=>bn2 (n:=H.length) (j:=j) MT
  have n2':=fun{j:Nat}=>an7 (n:=H.length) (j:=j) MT
  have D9:∀aP,bQ E aP 135 1 [(0,AV.agg [.bool xp,we,.bool xq,wg,.bool zf,y8,.bool zg,y9,.bool zj,za,.bool zk,zd])]=some (.aI aP 0 1 12 1,[(aP,.cells .live [.bool xp,we,.bool xq,wg,.bool zf,y8,.bool zg,y9,.bool zj,za,.bool zk,zd])]):=fun aP=>jJ AZ rfl (by decide) (by decide) rfl
  rcases hs with⟨e0,e1,rfl⟩|⟨k0,b1,b1L,b1l,rfl,mN⟩
  ·have vE:=sT (E:=E) (H:=H++[.cells .live [.int .i64 (fh bG i).x,.int .i64 (fh bG i).y,.int .i64 (fh bG i).z],.cells .live [.bool xp,we,.bool xq,wg,.bool zf,y8,.bool zg,y9,.bool zj,za,.bool zk,zd],dw]) (aP:=H.length+2) (b:=H.length+1) (x:=[.bool xp,we,.bool xq,wg,.bool zf,y8,.bool zg,y9,.bool zj,za,.bool zk,zd]) (st:=.live) AZ (by decide) (by simp) (by decide) rfl ho (by unfold eU;omega);have dp:∀{T:Hp},gT 1 [.aI (H.length+2) 0 1 12 1] (H++T) 2 0=some (.cells .live [.aI (H.length+2) 0 1 12 1,.aH,.aH]):=by intro T;rw[dX,aNB (by omega),h2];rfl
   obtain⟨H4,qx⟩:∃H4,H4=H.set 2 (.cells .live [.aI (H.length+2) 0 1 12 1,.aH,.aH]):=⟨_,rfl⟩;have G3:∀{l:Hp},cJ (H++l) 2 (.cells .live [.aI (H.length+2) 0 1 12 1,.aH,.aH])=H4++l:=by
    intro l;rw[dk (by rw[aLk];omega),aVt _ _ (by omega),qx]
   simp only[↓aL,aM,↓aT,aJ,cH,↓reduceIte,aa,ah,ae,hl,g5,g22,g23,g24,ci,mZ,pi,hr,c20,n2,D9,vE,dp,G3,aK5,aTs,aLk];refine bK ?_;refine⟨_,?_,i+1,(.aI (H.length+2) 0 1 12 1),vs++[[.bool xp,we,.bool xq,wg,.bool zf,y8,.bool zg,y9,.bool zj,za,.bool zk,zd]],(H4++[.cells .live [.int .i64 (fh bG i).x,.int .i64 (fh bG i).y,.int .i64 (fh bG i).z],.cells .live [.bool xp,we,.bool xq,wg,.bool zf,y8,.bool zg,y9,.bool zj,za,.bool zk,zd],.cells .live [.bool xp,we,.bool xq,wg,.bool zf,y8,.bool zg,y9,.bool zj,za,.bool zk,zd]]),rfl,(by simp[bc,hl]),?_⟩
   ·first|omega|(simp;omega)
   simp only[aZ,hl,aa,ae,g1,g2,g5,g22,g23]
   iterate 7 refine cG ?_
   refine⟨?_,?_,?_,?_,?_,?_,?_⟩
   ·omega
   ·intro r hr;rcases aMi.1 hr with hr|hr
    ·exact hv r hr
    ·rw[aMs]at hr;subst hr;exact o5
   ·rw[aLk,hvl];rfl
   ·rw[aNB (by rw[qx];simp;omega),qx,aNt (by omega)];exact h0
   ·rw[aNB (by rw[qx];simp;omega),qx,aNt (by omega)];exact h1
   ·rw[aNB (by rw[qx];simp;omega),qx,aNv (by omega)]
   ·have h4l:H4.length=H.length:=by rw[qx];simp
    rw[aLk,aWd,e1,e0];exact .inr ⟨by simp,H.length+2,by omega,by simp[h4l],rfl,by rw[<-h4l];simp⟩
  have akO:vs.length<=8:=by omega
  have vE:=Cb (E:=E) (H:=H++[.cells .live [.int .i64 (fh bG i).x,.int .i64 (fh bG i).y,.int .i64 (fh bG i).z],.cells .live [.bool xp,we,.bool xq,wg,.bool zf,y8,.bool zg,y9,.bool zj,za,.bool zk,zd],dw]) (aP:=H.length+2) (b:=b1) (n:=vs.length) (cs:=vs.flatten) (c:=H.length+1) (x:=[.bool xp,we,.bool xq,wg,.bool zf,y8,.bool zg,y9,.bool zj,za,.bool zk,zd]) (st:=.live) AZ (by decide) k0 (by rw[aNB b1l];exact mN) (oM hv) (by simp) (by decide) rfl ho (by unfold eU;omega);obtain⟨H3,pE⟩:∃H3,H3=H.set b1 (.cells .dead []):=⟨_,rfl⟩;have GZ:H3.length=H.length:=by rw[pE];simp
  have lN:∀{l:Hp},cJ (H++l) b1 (.cells .dead [])=H3++l:=by
   intro l;rw[dk (by rw[aLk];omega),aVt _ _ (by omega),pE]
  have h32:H3[2]?=some (.cells .live [.aI b1 0 vs.length 12 vs.length,.aH,.aH]):=by rw[pE,aNt (by omega)];exact h2
  have dp:∀{T:Hp},gT 1 [.aI (H.length+2) 0 (vs.length+1) 12 (vs.length+1)] (H3++T) 2 0=some (.cells .live [.aI (H.length+2) 0 (vs.length+1) 12 (vs.length+1),.aH,.aH]):=by intro T;rw[dX,aNB (by omega),h32];rfl
  obtain⟨H4,qx⟩:∃H4,H4=H3.set 2 (.cells .live [.aI (H.length+2) 0 (vs.length+1) 12 (vs.length+1),.aH,.aH]):=⟨_,rfl⟩;have Qe:H4.length=H.length:=by rw[qx];simp[GZ]
  have G3:∀{l:Hp},cJ (H3++l) 2 (.cells .live [.aI (H.length+2) 0 (vs.length+1) 12 (vs.length+1),.aH,.aH])=H4++l:=by
   intro l;rw[dk (by rw[aLk];omega),aVt _ _ (by omega),qx]
  have m1:∀{j:Nat},(b1==H.length+j)=false:=fun{j}=>beq_eq_false_iff_ne.2 (by omega)
  have m2:∀{j:Nat},(H.length+j==b1)=false:=fun{j}=>beq_eq_false_iff_ne.2 (by omega)
  have m3:(b1==H.length)=false:=beq_eq_false_iff_ne.2 (by omega);have m4:(H.length==b1)=false:=beq_eq_false_iff_ne.2 (by omega);have m5:(b1==2)=false:=beq_eq_false_iff_ne.2 (by omega);have m6:(2==b1)=false:=beq_eq_false_iff_ne.2 (by omega);simp only[↓aL,aM,↓aT,aJ,cH,↓reduceIte,aa,ah,ae,hl,g5,g22,g23,g24,ci,mZ,pi,hr,c20,n2,D9,vE,lj,lN,dp,G3,GZ,aK5,aTs,aLk];refine bK ?_;refine⟨_,?_,i+1,(.aI (H.length+2) 0 (vs.length+1) 12 (vs.length+1)),vs++[[.bool xp,we,.bool xq,wg,.bool zf,y8,.bool zg,y9,.bool zj,za,.bool zk,zd]],(H4++[.cells .live [.int .i64 (fh bG i).x,.int .i64 (fh bG i).y,.int .i64 (fh bG i).z],.cells .live [.bool xp,we,.bool xq,wg,.bool zf,y8,.bool zg,y9,.bool zj,za,.bool zk,zd],.cells .live (vs.flatten++[.bool xp,we,.bool xq,wg,.bool zf,y8,.bool zg,y9,.bool zj,za,.bool zk,zd])]),rfl,(by simp[bc,hl]),?_⟩
  ·first|omega|(simp;omega)
  simp only[aZ,hl,aa,ae,g1,g2,g5,g22,g23]
  iterate 7 refine cG ?_
  refine⟨?_,?_,?_,?_,?_,?_,?_⟩
  ·omega
  ·intro r hr;rcases aMi.1 hr with hr|hr
   ·exact hv r hr
   ·rw[aMs]at hr;subst hr;exact o5
  ·rw[aLk,hvl];rfl
  ·rw[aNB (by omega),qx,aNt (by omega),pE,aNt (by omega)];exact h0
  ·rw[aNB (by omega),qx,aNt (by omega),pE,aNt (by omega)];exact h1
  ·rw[aNB (by omega),qx,aNv (by omega)]
  ·rw[aLk,aWd];exact .inr ⟨by simp,H.length+2,by omega,by simp[Qe],rfl,by rw[<-Qe];simp⟩
 have hie:i=bG.length:=by omega
 have d1:decide ((i:Int)<(bG.length:Int))=false:=bj;obtain⟨r2,Ec,gs,ext,rfl,hgs,aGl,-⟩:=DM (E:=E) K.C3 K.aAi hn;unfold kO at Ec;have hlg:kC (lR (Iu gs) gs.length)=some ((gs.length:Nat):Int):=nU;have Fl:cellAt H 0 0=some (.aK (oC bG) bG.length):=by rw[bX,h0];rfl
 obtain⟨pv,xi⟩:∃pv,pv=lR (Iu gs) gs.length:=⟨_,rfl⟩;obtain⟨qv,hqv⟩:∃qv,qv=lR (Iw gs) gs.length:=⟨_,rfl⟩;rw[<-xi,<-hqv]at Ec;rw[<-xi]at hlg;have MT:3<=H.length:=by have:=(aKB.1 h2).1;omega
 rcases hs with⟨e0,-,-⟩|⟨k0,bv,b1L,b1l,rfl,mN⟩
 ·have:=K.four;omega
 obtain⟨HO,rfl⟩:∃HO,HO=H:=⟨H,rfl⟩;simp only[↓aL,aM,↓aT,aJ,↓reduceIte,aa,ae,hl,g1,g23,g24,d1,Fl,Ec,hlg];have hvl:vs.length=bG.length:=by omega
 have akO:vs.length<=8:=by omega
 refine cE (fun k_ ts H=>∃k:Nat,∃fv:AV,∃fs:Fks,∃H1:Hp,k_=(gs.length-k:Nat)/\ts.length=86/\gt ts 1=.bI 0 0/\gt ts 2=.bI 1 0/\gt ts 5=.bI 2 0/\gt ts 9=qv/\gt ts 43=pv/\gt ts 44=.int .i64 (gs.length:Int)/\gt ts 45=.int .i64 (k:Int)/\H=H1/\(k<=gs.length)/\(∀f∈fs,aa6 vs.length f)/\(fs.length=k)/\(HO.length<=H1.length)/\(H1[1]?=some (.cells .live [.aH,.aH,.aH]))/\(H1[2]?=some (.cells .live [.aI bv 0 vs.length 12 vs.length,fv,.aH]))/\(H1[bv]?=some (.cells .live vs.flatten))/\(uo 17 HO.length fv H1 fs.length (xf fs))) (gs.length) ?_ ?_
 rotate_left
 ·refine⟨0,.aH,[],HO,(by first|omega|rfl|simp),(by simp[bc,hl]),?_⟩;simp only[aZ,hl,aa,ae,g1,g2,g5]
  iterate 8 refine cG ?_
  refine⟨?_,?_,?_,?_,?_,?_,?_,?_⟩
  ·first|omega|trivial
  ·first|(intro r hr;cases hr)|trivial
  ·first|rfl|trivial
  ·first|omega|trivial
  ·first|exact h1|trivial
  ·first|exact h2|trivial
  ·first|exact mN|trivial
  ·first|exact .inl ⟨rfl,rfl,rfl⟩|trivial
 clear hl g1 g2 g5 g22 g23 g24 ts;rintro k_ ts H ⟨k,fv,fs,H1,rfl,hl,g1,g2,g5,g9,EA,Bf,ML,rfl,hk,hF,Jp,hHO,h1,h2,mN,hs⟩;refine VS ?_;by_cases hd:k<gs.length
 ·have d1:decide ((k:Int)<(gs.length:Int))=true:=bh;have ck:=eT (i:=k) (n:=gs.length) hd;have qd:=wz (z:=(k:Int)+1) (m:=k+1);have akE:AV.aK (Iu gs) gs.length=pv:=by rw[xi];exact(gf).symm
  have azT:AV.aK (Iw gs) gs.length=qv:=by rw[hqv];exact(gf).symm
  rw[<-akE]at EA;rw[<-azT]at g9;have pa:=alT hd;have ra:=avp hd;have EF:=hgs _ (aLr hd);generalize gs[k]=f at pa ra EF;obtain⟨⟨⟨x,y,z⟩,on⟩,out⟩:=f;have vR:=EF.pl;have eQ:=EF.ne;have hol:=EF.len;have ek:=EF.lt;simp only[yE]at pa
  dsimp only at ra vR eQ hol ek
  have c0:(0<(out.length:Int))=True:=eq_true (by have:=aSc.2 eQ;omega);have n0:=QX (l:=out) (i:=0) (aSc.2 eQ);have AH:out.getD 0 0<vs.length:=by
   rw[List.getD_eq_getElem?_getD,aLh (aSc.2 eQ),Option.getD_some]
   have:=ek _ (aLr (aSc.2 eQ));omega
  generalize out.getD 0 0=q at n0 AH;have cq:=eT (i:=q) (n:=vs.length) AH;have hB:=vR.bN;obtain⟨r,hr,hVr⟩:=LC (E:=E) (x:=x) (y:=y) (z:=z) (by have:=hB.1;simp only at this;omega) (by have:=hB.1;simp only at this;omega) (by have:=hB.2.1;simp only at this;omega) (by have:=hB.2.1;simp only at this;omega) (by have:=hB.2.2;simp only at this;omega) (by have:=hB.2.2;simp only at this;omega);have hbv:BV 28 (⟨(x:Rat),(y:Rat),(z:Rat)⟩:V3):=⟨L9 hB.1,L9 hB.2.1,L9 hB.2.2⟩;have atO:=avJ vR.nz;obtain⟨w,hw,hVw⟩:=tR (E:=E) hVr hbv (by omega) atO;have hbw:=Gk hbv atO;have pr:=LB hVr;have XH:=hv _ (aLr AH);obtain⟨a2,CU,sn⟩:=XH.ex;obtain⟨o,ho,hRo⟩:=I8 (E:=E) hVw CU hbw sn;obtain⟨mn0,mm0,mn1,mm1,mn2,mm2,mn3,mm3,mn4,mm4,mn5,mm5,rfl,-,-,-,Pm,Om⟩:=dC hVr;obtain⟨jq,jm,jr,ja,jt,jb,ju,jc,jv,jn,jw,jo,rfl,-,-,-,Pn,On⟩:=dC hVw;have hnr:gK 300 [.bool jq,jm,.bool jr,ja,.bool jt,jb,.bool ju,jc,.bool jv,jn,.bool jw,jo]:=⟨_,hVw,hbw.mono (by omega)⟩;have MW:=hnr.one;have hnp:=hnr.pure;obtain⟨Bo,Bm,Br,Bn,_,_,rfl,-,M1,M2,-⟩:=db hRo;have Mo:=cI _ hRo;have Xc:∀{T:Hp},eP 12 (H++T) bv (q*12)=some (.agg vs[q]):=fun{T}=>ae7 hv (by rw[aNB (aKB.1 mN).1];exact mN) AH
  generalize vs[q]=aII at Xc ho XH CU;obtain⟨Uy,Us,Uz,Ut,UA,Uu,UB,Uv,UC,Uw,UD,Ux,ey,-,-,-,Py,Oy⟩:=dC CU;injection ey with ey
  subst ey;have hyp:=XH.pure;have akj:aa6 vs.length ([.bool jq,jm,.bool jr,ja,.bool jt,jb,.bool ju,jc,.bool jv,jn,.bool jw,jo,.bool Bo,Bm,.bool Br,Bn],out):=by
   refine⟨⟨rfl,?_,?_,eQ,hol,fun x hx=>by have:=ek x hx;omega⟩,⟨[.bool jq,jm,.bool jr,ja,.bool jt,jb,.bool ju,jc,.bool jv,jn,.bool jw,jo],[.bool Bo,Bm,.bool Br,Bn],rfl,hnr⟩,?_⟩
   ·have:[.bool jq,jm,.bool jr,ja,.bool jt,jb,.bool ju,jc,.bool jv,jn,.bool jw,jo,.bool Bo,Bm,.bool Br,Bn]=[.bool jq,jm,.bool jr,ja,.bool jt,jb,.bool ju,jc,.bool jv,jn,.bool jw,jo]++[.bool Bo,Bm,.bool Br,Bn]:=rfl
    rw[this,iB,hnp];simp[aV,aU,Mo]
   ·have:[.bool jq,jm,.bool jr,ja,.bool jt,jb,.bool ju,jc,.bool jv,jn,.bool jw,jo,.bool Bo,Bm,.bool Br,Bn]=[.bool jq,jm,.bool jr,ja,.bool jt,jb,.bool ju,jc,.bool jv,jn,.bool jw,jo]++[.bool Bo,Bm,.bool Br,Bn]:=rfl
    rw[this,List.all_append,MW];simp[rz,Mo]
   ·intro c hc
    have:[.bool jq,jm,.bool jr,ja,.bool jt,jb,.bool ju,jc,.bool jv,jn,.bool jw,jo,.bool Bo,Bm,.bool Br,Bn]=[.bool jq,jm,.bool jr,ja,.bool jt,jb,.bool ju,jc,.bool jv,jn,.bool jw,jo]++[.bool Bo,Bm,.bool Br,Bn]:=rfl
    rw[this]at hc;rcases aMi.1 hc with h|h
    ·exact hnr.flat c h
    ·simp only[List.mem_cons,List.not_mem_nil,or_false]at h;rcases h with rfl|rfl|rfl|rfl
     ·exact Fy
     ·exact yw M1
     ·exact Fy
     ·exact yw M2
  have agy:([.bool jq,jm,.bool jr,ja,.bool jt,jb,.bool ju,jc,.bool jv,jn,.bool jw,jo,.bool Bo,Bm,.bool Br,Bn,.aK (nA out) out.length]:List AV).all cL=true:=akj.ok.ko;have MT:3<=H.length:=by omega
  have aF7:=(aKB.1 mN).1;have c20:∀{T:Hp},cellAt (H++T) 2 0=some (.aI bv 0 vs.length 12 vs.length):=by intro T;rw[bX,aNB (by omega),h2];rfl
  have c21:∀{T:Hp},cellAt (H++T) 2 1=some fv:=by intro T;rw[bX,aNB (by omega),h2];rfl
  have n2:=fun{j:Nat}=>bn2 (n:=H.length) (j:=j) MT
  have n2':=fun{j:Nat}=>an7 (n:=H.length) (j:=j) MT
  have D9:∀aP,bQ E aP 136 1 [(0,AV.agg [.bool jq,jm,.bool jr,ja,.bool jt,jb,.bool ju,jc,.bool jv,jn,.bool jw,jo,.bool Bo,Bm,.bool Br,Bn,.aK (nA out) out.length])]=some (.aI aP 0 1 17 1,[(aP,.cells .live [.bool jq,jm,.bool jr,ja,.bool jt,jb,.bool ju,jc,.bool jv,jn,.bool jw,jo,.bool Bo,Bm,.bool Br,Bn,.aK (nA out) out.length])]):=fun aP=>jJ Ld rfl (by decide) (by decide) rfl
  rcases hs with⟨e0,e1,rfl⟩|⟨k0,b1,b1L,b1l,rfl,hbf⟩
  ·have vE:=sT (E:=E) (H:=H++[.cells .live [.int .i64 x,.int .i64 y,.int .i64 z,.int .u64 ((on:Nat):Int)],.cells .live [.bool jq,jm,.bool jr,ja,.bool jt,jb,.bool ju,jc,.bool jv,jn,.bool jw,jo],.cells .live [.bool jq,jm,.bool jr,ja,.bool jt,jb,.bool ju,jc,.bool jv,jn,.bool jw,jo,.bool Bo,Bm,.bool Br,Bn,.aK (nA out) out.length],dw]) (aP:=H.length+3) (b:=H.length+2) (x:=[.bool jq,jm,.bool jr,ja,.bool jt,jb,.bool ju,jc,.bool jv,jn,.bool jw,jo,.bool Bo,Bm,.bool Br,Bn,.aK (nA out) out.length]) (st:=.live) Ld (by decide) (by simp) (by decide) rfl agy (by unfold eU;omega);have dp:∀{T:Hp},gT 1 [.aI (H.length+3) 0 1 17 1] (H++T) 2 1=some (.cells .live [.aI bv 0 vs.length 12 vs.length,.aI (H.length+3) 0 1 17 1,.aH]):=by intro T;rw[dX,aNB (by omega),h2];rfl
   obtain⟨H4,qx⟩:∃H4,H4=H.set 2 (.cells .live [.aI bv 0 vs.length 12 vs.length,.aI (H.length+3) 0 1 17 1,.aH]):=⟨_,rfl⟩;have G3:∀{l:Hp},cJ (H++l) 2 (.cells .live [.aI bv 0 vs.length 12 vs.length,.aI (H.length+3) 0 1 17 1,.aH])=H4++l:=by
    intro l;rw[dk (by rw[aLk];omega),aVt _ _ (by omega),qx]
   simp only[↓aL,aM,↓aT,aJ,cH,↓reduceIte,aa,ah,ae,an,ar,ai,hl,g5,g9,EA,Bf,ML,ck,qd,pa,ra,hr,hw,n0,c0,cq,ho,Xc,c20,c21,n2,D9,vE,dp,G3,Pm,Pn,On,Py,eL,aK5,aTs,aLk];have Qe:H4.length=H.length:=by rw[qx];simp
   refine bK ?_;refine⟨_,?_,k+1,(.aI (H.length+3) 0 1 17 1),fs++[([.bool jq,jm,.bool jr,ja,.bool jt,jb,.bool ju,jc,.bool jv,jn,.bool jw,jo,.bool Bo,Bm,.bool Br,Bn],out)],(H4++[.cells .live [.int .i64 x,.int .i64 y,.int .i64 z,.int .u64 ((on:Nat):Int)],.cells .live [.bool jq,jm,.bool jr,ja,.bool jt,jb,.bool ju,jc,.bool jv,jn,.bool jw,jo],.cells .live [.bool jq,jm,.bool jr,ja,.bool jt,jb,.bool ju,jc,.bool jv,jn,.bool jw,jo,.bool Bo,Bm,.bool Br,Bn,.aK (nA out) out.length],.cells .live [.bool jq,jm,.bool jr,ja,.bool jt,jb,.bool ju,jc,.bool jv,jn,.bool jw,jo,.bool Bo,Bm,.bool Br,Bn,.aK (nA out) out.length]]),rfl,(by simp[bc,hl]),?_⟩
   ·first|omega|(simp;omega)
   simp only[aZ,hl,aa,ae,g1,g2,g5,g9,EA,Bf]
   iterate 8 refine cG ?_
   refine⟨?_,?_,?_,?_,?_,?_,?_,?_⟩
   ·omega
   ·intro r hr;rcases aMi.1 hr with hr|hr
    ·exact hF r hr
    ·rw[aMs]at hr;subst hr;exact akj
   ·rw[aLk,Jp];rfl
   ·rw[aLk];omega
   ·rw[aNB (by omega),qx,aNt (by omega)];exact h1
   ·rw[aNB (by omega),qx,aNv (by omega)]
   ·rw[aNB (by omega),qx,aNt (by omega)];exact mN
   ·have e2:xf (fs++[([.bool jq,jm,.bool jr,ja,.bool jt,jb,.bool ju,jc,.bool jv,jn,.bool jw,jo,.bool Bo,Bm,.bool Br,Bn],out)])=xf fs++[.bool jq,jm,.bool jr,ja,.bool jt,jb,.bool ju,jc,.bool jv,jn,.bool jw,jo,.bool Bo,Bm,.bool Br,Bn,.aK (nA out) out.length]:=by simp[xf,Ey]
    rw[aLk,e2,e1,e0];exact .inr ⟨by simp,H.length+3,by omega,by simp[Qe],rfl,by rw[<-Qe];simp⟩
  have agx:fs.length<=56:=by omega
  have vE:=Cb (E:=E) (H:=H++[.cells .live [.int .i64 x,.int .i64 y,.int .i64 z,.int .u64 ((on:Nat):Int)],.cells .live [.bool jq,jm,.bool jr,ja,.bool jt,jb,.bool ju,jc,.bool jv,jn,.bool jw,jo],.cells .live [.bool jq,jm,.bool jr,ja,.bool jt,jb,.bool ju,jc,.bool jv,jn,.bool jw,jo,.bool Bo,Bm,.bool Br,Bn,.aK (nA out) out.length],dw]) (aP:=H.length+3) (b:=b1) (n:=fs.length) (cs:=xf fs) (c:=H.length+2) (x:=[.bool jq,jm,.bool jr,ja,.bool jt,jb,.bool ju,jc,.bool jv,jn,.bool jw,jo,.bool Bo,Bm,.bool Br,Bn,.aK (nA out) out.length]) (st:=.live) Ld (by decide) k0 (by rw[aNB b1l];exact hbf) (P7 fun f hf=>(hF f hf).ok) (by simp) (by decide) rfl agy (by unfold eU;omega);have aj4:b1≠bv:=by omega
  obtain⟨H3,pE⟩:∃H3,H3=H.set b1 (.cells .dead []):=⟨_,rfl⟩;have GZ:H3.length=H.length:=by rw[pE];simp
  have lN:∀{l:Hp},cJ (H++l) b1 (.cells .dead [])=H3++l:=by
   intro l;rw[dk (by rw[aLk];omega),aVt _ _ (by omega),pE]
  have h32:H3[2]?=some (.cells .live [.aI bv 0 vs.length 12 vs.length,.aI b1 0 fs.length 17 fs.length,.aH]):=by rw[pE,aNt (by omega)];exact h2
  have dp:∀{T:Hp},gT 1 [.aI (H.length+3) 0 (fs.length+1) 17 (fs.length+1)] (H3++T) 2 1=some (.cells .live [.aI bv 0 vs.length 12 vs.length,.aI (H.length+3) 0 (fs.length+1) 17 (fs.length+1),.aH]):=by intro T;rw[dX,aNB (by omega),h32];rfl
  obtain⟨H4,qx⟩:∃H4,H4=H3.set 2 (.cells .live [.aI bv 0 vs.length 12 vs.length,.aI (H.length+3) 0 (fs.length+1) 17 (fs.length+1),.aH]):=⟨_,rfl⟩;have Qe:H4.length=H.length:=by rw[qx];simp[GZ]
  have G3:∀{l:Hp},cJ (H3++l) 2 (.cells .live [.aI bv 0 vs.length 12 vs.length,.aI (H.length+3) 0 (fs.length+1) 17 (fs.length+1),.aH])=H4++l:=by
   intro l;rw[dk (by rw[aLk];omega),aVt _ _ (by omega),qx]
  have m1:∀{j:Nat},(b1==H.length+j)=false:=fun{j}=>beq_eq_false_iff_ne.2 (by omega)
  have m2:∀{j:Nat},(H.length+j==b1)=false:=fun{j}=>beq_eq_false_iff_ne.2 (by omega)
  have m3:(b1==H.length)=false:=beq_eq_false_iff_ne.2 (by omega);have m4:(H.length==b1)=false:=beq_eq_false_iff_ne.2 (by omega);have m5:(b1==2)=false:=beq_eq_false_iff_ne.2 (by omega);have m6:(2==b1)=false:=beq_eq_false_iff_ne.2 (by omega);have m7:(b1==bv)=false:=beq_eq_false_iff_ne.2 aj4;have m8:(bv==b1)=false:=beq_eq_false_iff_ne.2 (Ne.symm aj4);simp only[↓aL,aM,↓aT,aJ,cH,↓reduceIte,aa,ah,ae,an,ar,ai,hl,g5,g9,EA,Bf,ML,ck,qd,pa,ra,hr,hw,n0,c0,cq,ho,Xc,c20,c21,n2,D9,vE,lj,lN,dp,G3,GZ,Pm,Pn,On,Py,eL,aK5,aTs,aLk];refine bK ?_;refine⟨_,?_,k+1,(.aI (H.length+3) 0 (fs.length+1) 17 (fs.length+1)),fs++[([.bool jq,jm,.bool jr,ja,.bool jt,jb,.bool ju,jc,.bool jv,jn,.bool jw,jo,.bool Bo,Bm,.bool Br,Bn],out)],(H4++[.cells .live [.int .i64 x,.int .i64 y,.int .i64 z,.int .u64 ((on:Nat):Int)],.cells .live [.bool jq,jm,.bool jr,ja,.bool jt,jb,.bool ju,jc,.bool jv,jn,.bool jw,jo],.cells .live [.bool jq,jm,.bool jr,ja,.bool jt,jb,.bool ju,jc,.bool jv,jn,.bool jw,jo,.bool Bo,Bm,.bool Br,Bn,.aK (nA out) out.length],.cells .live (xf fs++[.bool jq,jm,.bool jr,ja,.bool jt,jb,.bool ju,jc,.bool jv,jn,.bool jw,jo,.bool Bo,Bm,.bool Br,Bn,.aK (nA out) out.length])]),rfl,(by simp[bc,hl]),?_⟩
  ·first|omega|(simp;omega)
  simp only[aZ,hl,aa,ae,g1,g2,g5,g9,EA,Bf]
  iterate 8 refine cG ?_
  refine⟨?_,?_,?_,?_,?_,?_,?_,?_⟩
  ·omega
  ·intro r hr;rcases aMi.1 hr with hr|hr
   ·exact hF r hr
   ·rw[aMs]at hr;subst hr;exact akj
  ·rw[aLk,Jp];rfl
  ·rw[aLk];omega
  ·rw[aNB (by omega),qx,aNt (by omega),pE,aNt (by omega)];exact h1
  ·rw[aNB (by omega),qx,aNv (by omega)]
  ·rw[aNB (by omega),qx,aNt (by omega),pE,aNt aj4];exact mN
  ·have e2:xf (fs++[([.bool jq,jm,.bool jr,ja,.bool jt,jb,.bool ju,jc,.bool jv,jn,.bool jw,jo,.bool Bo,Bm,.bool Br,Bn],out)])=xf fs++[.bool jq,jm,.bool jr,ja,.bool jt,jb,.bool ju,jc,.bool jv,jn,.bool jw,jo,.bool Bo,Bm,.bool Br,Bn,.aK (nA out) out.length]:=by simp[xf,Ey]
   rw[aLk,e2];exact .inr ⟨by simp,H.length+3,by omega,by simp[Qe],rfl,by rw[<-Qe];simp⟩
 have d1:decide ((k:Int)<(gs.length:Int))=false:=bj;have agx:fs.length<=56:=by omega
 obtain⟨r,hr,es,rfl,yX,asQ⟩:=Mw (E:=E) (m:=vs.length) akO (fs:=fs) (fun f hf=>(hF f hf).ok) (by omega);have XE:=TF (cs:=rX es) (n:=es.length);have XG:=mB (cs:=rX es) (n:=es.length);have zQ:=yM (cs:=rX es) (n:=es.length);have adp:qV ⟨vs,fs,es⟩:=⟨hv,akO,hF,agx,yX,asQ⟩;obtain⟨ev,hev⟩:∃ev,ev=lR (rX es) es.length:=⟨_,rfl⟩;rw[<-hev]at hr XE XG zQ;have c21:cellAt H 2 1=some fv:=by rw[bX,h2];rfl
 have h1l:=(aKB.1 h1).1;have h2l:=(aKB.1 h2).1;obtain⟨bs,H5,fY,azg,k1,k2,kb,kl,uf,kf⟩:∃bs H5,qR (aU fv) H [fv]=some ([lR (xf fs) fs.length],bs)/\cC.app H (if bY ev=true then cC.looks bs else cC.marks bs)=H5/\H5[1]?=H[1]?/\H5[2]?=H[2]?/\H5[bv]?=H[bv]?/\H5.length=H.length/\∃uf,∀T:Hp,T.length=H.length->(∀q,q≠1->q≠2->T[q]?=H5[q]?)->Fr T 2 fv (lR (xf fs) fs.length) uf:=by
  have hff:∀c∈xf fs,Flat c:=WN hF;rcases hs with⟨e0,e1,rfl⟩|⟨k0,b1,b1L,b1l,rfl,hbf⟩
  ·refine⟨[],H,?_,?_,rfl,rfl,rfl,rfl,[],fun T _ _=>?_⟩
   ·rw[e1,e0];rfl
   ·cases bY ev<;>rfl
   ·rw[e1,e0];exact(Fr.flat yb).up (by omega)
  ·have hlen:=P7 (fun f hf=>(hF f hf).ok);have fY:=yf (m:=fs.length) (s:=17) hbf (by decide) hlen hff;rw[gf k0];cases hrr:bY ev with
   |true=>
    exact⟨[b1],H,fY,rfl,rfl,rfl,rfl,rfl,_,fun T hT hq=>Fr.M0 (st:=.live) (by rw[hq _ (by omega) (by omega)];exact hbf) (by decide) hlen (eu.flat hff)⟩
   |false=>
    refine⟨[b1],H.modify b1 ct.j7,fY,rfl,?_,?_,?_,by simp,[b1]++[],fun T hT hq=>Fr.M0 (st:=.ro) ?_ (by decide) hlen (eu.flat hff)⟩
    ·exact YZ
    ·exact YZ
    ·exact YZ
    ·rw[hq _ (by omega) (by omega)];exact auD hbf
 have Jv:gT 1 [ev] H5 2 2=some (.cells .live [.aI bv 0 vs.length 12 vs.length,fv,ev]):=by rw[dX,k2,h2];simp[XG,cV]
 obtain⟨H6,EB⟩:∃H6,H6=H5.set 2 (.cells .live [.aI bv 0 vs.length 12 vs.length,fv,ev]):=⟨_,rfl⟩;have hp6:cJ H5 2 (.cells .live [.aI bv 0 vs.length 12 vs.length,fv,ev])=H6:=by rw[dk,EB]
 have a6:eP 3 H6 2 0=some (.agg [.aI bv 0 vs.length 12 vs.length,fv,ev]):=by rw[dA,EB,aNv (by omega)];rfl
 have EF:cL fv=true:=by rcases hs with⟨_,_,rfl⟩|⟨_,b1,_,_,rfl,_⟩<;>rfl
 have Ss:gT 3 [.aI bv 0 vs.length 12 vs.length,fv,ev] H6 1 0=some (.cells .live [.aI bv 0 vs.length 12 vs.length,fv,ev]):=by rw[dX,EB,aNt (by omega),k1,h1];simp[XG,EF,cV,Q0]
 obtain⟨H7,Ua⟩:∃H7,H7=H6.set 1 (.cells .live [.aI bv 0 vs.length 12 vs.length,fv,ev]):=⟨_,rfl⟩;have Xz:cJ H6 1 (.cells .live [.aI bv 0 vs.length 12 vs.length,fv,ev])=H7:=by rw[dk (by rw[EB,List.length_set];omega),Ua]
 have a7:eP 3 H7 1 0=some (.agg [.aI bv 0 vs.length 12 vs.length,fv,ev]):=by rw[dA,Ua,aNv (by rw[EB,List.length_set];omega)];rfl
 have q7:∀q,q≠1->q≠2->H7[q]?=H5[q]?:=fun q x1 x2=>by rw[Ua,aNt (Ne.symm x1),EB,aNt (Ne.symm x2)]
 have f7:=kf H7 (by rw[Ua,EB];simp[kl]) q7;obtain⟨u7,fv7⟩:∃u,Fr H7 2 (.aI bv 0 vs.length 12 vs.length) (lR vs.flatten vs.length) u:=by
  rw[gf k0];refine⟨_,Fr.M0 (st:=.live) (by rw[q7 bv (by omega) (by omega),kb];exact mN) (by decide) (oM hv) (eu.flat (vn hv))⟩
 have azl:=k8 (H:=H7) (m:=4) (l:=[.tuple [.agg [.aI bv 0 vs.length 12 vs.length,fv,ev],.int .i64 0]]) (eu.cons (Fr.tup (eu.cons (Fr.agg (eu.cons fv7 (eu.cons f7 (eu.cons ((Fr.flat zQ).up (by omega)) eu.nil)))) (eu.cons ((Fr.flat fE).up (by omega)) eu.nil))) eu.nil) (by omega) (by simp[aV,aU]);simp only[↓aL,aM,↓aT,aJ,↓reduceIte,aa,ae,hl,g2,g5,Bf,ML,d1,c21,fY,hr,azg,XE,Jv,hp6,a6,Ss,Xz,a7,azl];exact⟨_,0,rfl,.inr ⟨rfl,⟨vs,fs,es⟩,adp,by rw[hev];rfl⟩⟩
structure LX(k:Nat)(r:List AV):Prop where
 ex:∃q,eA (.agg r) q/\Bq k q
def LX.cells{k:Nat}{r:List AV}(h:LX k r):∃xp we xq wg,r=[.bool xp,we,.bool xq,wg]/\(aU we=true/\cL we=true/\aU wg=true/\cL wg=true):=by
 obtain⟨q,h1,_⟩:=h.ex;obtain⟨a,b,c,d,_,_,e,-⟩:=db h1;injection e with e
 subst e;exact⟨_,_,_,_,rfl,cI _ h1⟩
def KZ{H:Hp}{b:Nat}{x:ct}(h:H[b]?=some x):cJ H b x=H:=by obtain⟨ek,rfl⟩:=aKB.1 h;rw[dk ek,List.set_getElem_self]
def AB{s:Sh}(hs:qV s){n:List AV}{K:Nat}(hn:gK K n)(hK:K<=100000:=by omega):
  ∃r,aR E 117 [.agg (qk s),.agg n]=some r/\∃lo hi,r=.tuple [.agg lo,.agg hi]/\LX 1000000 lo/\LX 1000000 hi:=by
 obtain⟨vs,fs,es⟩:=s;have hv:∀r∈vs,gK 13 r:=hs.vs;have hv8:vs.length<=8:=hs.n8;have aGU:=hs.pure;obtain⟨va,Sv⟩:∃va,va=lR vs.flatten vs.length:=⟨_,rfl⟩;obtain⟨fa,hfa⟩:∃fa,fa=lR (xf fs) fs.length:=⟨_,rfl⟩;obtain⟨ea,hea⟩:∃ea,ea=lR (rX es) es.length:=⟨_,rfl⟩;have r8:qk ⟨vs,fs,es⟩=[va,fa,ea]:=by rw[Sv,hfa,hea];rfl
 rw[r8];have qA:kC va=some ((vs.length:Nat):Int):=by rw[Sv];exact nU
 have oo:cL va=true/\cL fa=true/\cL ea=true:=⟨by rw[Sv];exact mB,by rw[hfa];exact mB,by rw[hea];exact mB⟩;obtain⟨na,hna,hnb⟩:=hn.ex;obtain⟨jq,jm,jr,ja,jt,jb,ju,jc,jv,jn,jw,jo,en,-,-,-,Pn,On⟩:=dC hna;injection en with en
 subst en;have C2:bC (Operand.const (Value.int .i64 0))=true:=rfl;refine pX aqO ?_;intro ts hl g0 g1;unfold aom;simp only[↓aL,aM,aJ,aa,ah,ae,Tryz.f117,hl,g0,g1,qA];refine cE (fun k_ ts H=>∃i:Nat,∃lo,∃hi,∃H1,k_=(vs.length-i:Nat)/\ts.length=41/\gt ts 3=.bI 1 0/\gt ts 4=.bI 2 0/\gt ts 5=.bI 3 0/\gt ts 10=va/\gt ts 11=.int .i64 (vs.length:Int)/\gt ts 12=.int .i64 (i:Int)/\H=H1/\(i<=vs.length)/\(H1[1]?=some (.cells .live [.bool jq,jm,.bool jr,ja,.bool jt,jb,.bool ju,jc,.bool jv,jn,.bool jw,jo]))/\(H1[2]?=some (.cells .live lo))/\(H1[3]?=some (.cells .live hi))/\(LX 1000000 lo)/\(LX 1000000 hi)) (vs.length) ?_ ?_
 rotate_left
 ·refine⟨0,[.bool false,.aH,.bool false,.aH],[.bool false,.aH,.bool false,.aH],[.cells .live [va,fa,ea],.cells .live [.bool jq,jm,.bool jr,ja,.bool jt,jb,.bool ju,jc,.bool jv,jn,.bool jw,jo],.cells .live [.bool false,.aH,.bool false,.aH],.cells .live [.bool false,.aH,.bool false,.aH]],(by first|omega|rfl|simp),(by simp[bc,hl]),?_⟩;simp only[aZ,hl,aa,ae]
  iterate 7 refine cG ?_
  refine⟨?_,?_,?_,?_,?_,?_⟩
  ·first|omega|trivial
  ·first|rfl|trivial
  ·first|rfl|trivial
  ·first|rfl|trivial
  ·first|exact⟨0,oD,PD.mono (by omega)⟩|trivial
  ·first|exact⟨0,oD,PD.mono (by omega)⟩|trivial
 clear hl g0 g1 ts;rintro k_ ts H ⟨i,lo,hi,H1,rfl,hl,g3,g4,g5,g10,g11,g12,rfl,hi,h1,h2,h3,ik,EG⟩;refine VS ?_;obtain⟨ql,hql,bql⟩:=ik.ex;obtain⟨qh,hqh,bqh⟩:=EG.ex;obtain⟨an0,am0,an1,am1,rfl,Pa⟩:=ik.cells;obtain⟨bn0,bm0,bn1,bm1,rfl,Pb⟩:=EG.cells;have aGD:4<=H.length:=by have:=(aKB.1 h3).1;omega
 by_cases hd:i<vs.length
 rotate_left
 ·have d1:decide ((i:Int)<(vs.length:Int))=false:=bj;have a2:eP 4 H 2 0=some (.agg [.bool an0,am0,.bool an1,am1]):=by rw[dA,h2];rfl
  have a3:eP 4 H 3 0=some (.agg [.bool bn0,bm0,.bool bn1,bm1]):=by rw[dA,h3];rfl
  have s2:gT 4 [.bool an0,am0,.bool an1,am1] H 2 0=some (.cells .live [.bool an0,am0,.bool an1,am1]):=by rw[dX,h2];simp[rz,Pa,cV]
  have s3:gT 4 [.bool bn0,bm0,.bool bn1,bm1] H 3 0=some (.cells .live [.bool bn0,bm0,.bool bn1,bm1]):=by rw[dX,h3];simp[rz,Pb,cV]
  have p2:=KZ h2;have p3:=KZ h3;simp only[↓aL,aM,aJ,↓reduceIte,aa,ah,ae,aj,hl,g4,g5,g11,g12,d1,a2,a3,s2,s3,p2,p3,Pa,Pb];exact⟨_,_,rfl,ik,EG⟩
 have d1:decide ((i:Int)<(vs.length:Int))=true:=bh;have Uk:AV.aK vs.flatten vs.length=va:=by rw[Sv];exact(gf).symm
 rw[<-Uk]at g10;have ci:=eT (i:=i) (n:=vs.length) hd;have mZ:=wz (z:=(i:Int)+1) (m:=i+1);have pa:=rP hv hd;have o5:=hv _ (aLr hd);generalize vs[i]=row at pa o5;obtain⟨a2,CU,sn⟩:=o5.ex;obtain⟨d,Xj,hRd⟩:=I8 (E:=E) hna CU hnb sn;have bd:=(Wn hnb sn).mono (show 3*(K+13)+4<=1000000 by omega);obtain⟨Uy,Us,Uz,Ut,UA,Uu,UB,Uv,UC,Uw,UD,Ux,ey,-,-,-,Py,Oy⟩:=dC CU;injection ey with ey
 subst ey;have Jo:∀{w:List AV},d=.agg w->LX 1000000 w:=fun{w} e=>⟨_,by rw[<-e];exact hRd,bd⟩
 have vQ:=gS (E:=E) hRd hql bd bql;have hch:=gS (E:=E) hRd hqh bd bqh;obtain⟨yU,yS,yV,yT,_,_,rfl,-⟩:=db hRd;have Jo:=Jo rfl;have Pd:=cI _ hRd;generalize qq (ae6 na a2) ql=zl at vQ;generalize qq (ae6 na a2) qh=zh at hch;have l1:∀{T:Hp},eP 12 (H++T) 1 0=some (.agg [.bool jq,jm,.bool jr,ja,.bool jt,jb,.bool ju,jc,.bool jv,jn,.bool jw,jo]):=by intro T;rw[dA,aNB (by omega),h1];rfl
 have l2:∀{T:Hp},eP 4 (H++T) 2 0=some (.agg [.bool an0,am0,.bool an1,am1]):=by intro T;rw[dA,aNB (by omega),h2];rfl
 have l3:∀{T:Hp},eP 4 (H++T) 3 0=some (.agg [.bool bn0,bm0,.bool bn1,bm1]):=by intro T;rw[dA,aNB (by omega),h3];rfl
 obtain⟨H2,yW⟩:∃H2,H2=H.set 2 (.cells .live [.bool yU,yS,.bool yV,yT]):=⟨_,rfl⟩;obtain⟨H3,pE⟩:∃H3,H3=H.set 3 (.cells .live [.bool yU,yS,.bool yV,yT]):=⟨_,rfl⟩;obtain⟨H5,hH5⟩:∃H5,H5=H2.set 3 (.cells .live [.bool yU,yS,.bool yV,yT]):=⟨_,rfl⟩;have k2:H2.length=H.length:=by rw[yW];simp
 have k3:H3.length=H.length:=by rw[pE];simp
 have k5:H5.length=H.length:=by rw[hH5];simp[k2]
 have h23:H2[3]?=some (.cells .live [.bool bn0,bm0,.bool bn1,bm1]):=by rw[yW,aNt (by omega)];exact h3
 have l23:∀{T:Hp},eP 4 (H2++T) 3 0=some (.agg [.bool bn0,bm0,.bool bn1,bm1]):=by intro T;rw[dA,aNB (by omega),h23];rfl
 have s2:∀{T:Hp},gT 4 [.bool yU,yS,.bool yV,yT] (H++T) 2 0=some (.cells .live [.bool yU,yS,.bool yV,yT]):=by intro T;rw[dX,aNB (by omega),h2];simp[rz,Pd,cV]
 have s3:∀{T:Hp},gT 4 [.bool yU,yS,.bool yV,yT] (H++T) 3 0=some (.cells .live [.bool yU,yS,.bool yV,yT]):=by intro T;rw[dX,aNB (by omega),h3];simp[rz,Pd,cV]
 have s23:∀{T:Hp},gT 4 [.bool yU,yS,.bool yV,yT] (H2++T) 3 0=some (.cells .live [.bool yU,yS,.bool yV,yT]):=by intro T;rw[dX,aNB (by omega),h23];simp[rz,Pd,cV]
 have p2:∀{T:Hp},cJ (H++T) 2 (.cells .live [.bool yU,yS,.bool yV,yT])=H2++T:=by intro T;rw[dk (by rw[aLk];omega),aVt _ _ (by omega),yW]
 have p3:∀{T:Hp},cJ (H++T) 3 (.cells .live [.bool yU,yS,.bool yV,yT])=H3++T:=by intro T;rw[dk (by rw[aLk];omega),aVt _ _ (by omega),pE]
 have p23:∀{T:Hp},cJ (H2++T) 3 (.cells .live [.bool yU,yS,.bool yV,yT])=H5++T:=by intro T;rw[dk (by rw[aLk];omega),aVt _ _ (by omega),hH5]
 have x1:H2[1]?=some (.cells .live [.bool jq,jm,.bool jr,ja,.bool jt,jb,.bool ju,jc,.bool jv,jn,.bool jw,jo]):=by rw[yW,aNt (by omega)];exact h1
 have x2:H2[2]?=some (.cells .live [.bool yU,yS,.bool yV,yT]):=by rw[yW,aNv (by omega)]
 have y1:H3[1]?=some (.cells .live [.bool jq,jm,.bool jr,ja,.bool jt,jb,.bool ju,jc,.bool jv,jn,.bool jw,jo]):=by rw[pE,aNt (by omega)];exact h1
 have y2:H3[2]?=some (.cells .live [.bool an0,am0,.bool an1,am1]):=by rw[pE,aNt (by omega)];exact h2
 have y3:H3[3]?=some (.cells .live [.bool yU,yS,.bool yV,yT]):=by rw[pE,aNv (by omega)]
 have z1:H5[1]?=some (.cells .live [.bool jq,jm,.bool jr,ja,.bool jt,jb,.bool ju,jc,.bool jv,jn,.bool jw,jo]):=by rw[hH5,aNt (by omega)];exact x1
 have z2:H5[2]?=some (.cells .live [.bool yU,yS,.bool yV,yT]):=by rw[hH5,aNt (by omega)];exact x2
 have z3:H5[3]?=some (.cells .live [.bool yU,yS,.bool yV,yT]):=by rw[hH5,aNv (by omega)]
 by_cases hi0:i=0
 ·have b0:((i:Int)==0)=true:=by simp[hi0]
  simp only[↓aL,aM,↓aT,aJ,cH,↓reduceIte,aa,ah,ae,hl,g3,g4,g5,g10,g11,g12,ci,mZ,pa,b0,Xj,l1,s2,s23,p2,p23,Pn,Py,Pd,Oy,k2,aTs,aLk];refine bK ?_;refine⟨_,?_,i+1,[.bool yU,yS,.bool yV,yT],[.bool yU,yS,.bool yV,yT],(H5++[.cells .live [.bool Uy,Us,.bool Uz,Ut,.bool UA,Uu,.bool UB,Uv,.bool UC,Uw,.bool UD,Ux],.cells .live [.bool yU,yS,.bool yV,yT]]),rfl,(by simp[bc,hl]),?_⟩
  ·first|omega|(simp;omega)
  simp only[aZ,hl,aa,ae,g3,g4,g5,g10,g11]
  iterate 7 refine cG ?_
  refine⟨?_,?_,?_,?_,?_,?_⟩
  ·omega
  ·rw[aNB (by omega)];exact z1
  ·rw[aNB (by omega)];exact z2
  ·rw[aNB (by omega)];exact z3
  ·exact Jo
  ·exact Jo
 have b0:((i:Int)==0)=false:=by simpa using hi0
 by_cases Eh:zl<0
 ·have e1:decide (zl<0)=true:=bh Eh;by_cases hzh:zh>0
  ·have e2:decide (zh>0)=true:=bh hzh;simp only[↓aL,aM,↓aT,aJ,cH,↓reduceIte,aa,ah,ae,hl,g3,g4,g5,g10,g11,g12,ci,mZ,pa,b0,e1,e2,Xj,vQ,hch,l1,l2,l23,s2,s23,p2,p23,Pn,Py,Pa,Pb,Pd,Oy,k2,aTs,aLk];refine bK ?_;refine⟨_,?_,i+1,[.bool yU,yS,.bool yV,yT],[.bool yU,yS,.bool yV,yT],(H5++[.cells .live [.bool Uy,Us,.bool Uz,Ut,.bool UA,Uu,.bool UB,Uv,.bool UC,Uw,.bool UD,Ux],.cells .live [.bool yU,yS,.bool yV,yT]]),rfl,(by simp[bc,hl]),?_⟩
   ·first|omega|(simp;omega)
   simp only[aZ,hl,aa,ae,g3,g4,g5,g10,g11]
   iterate 7 refine cG ?_
   refine⟨?_,?_,?_,?_,?_,?_⟩
   ·omega
   ·rw[aNB (by omega)];exact z1
   ·rw[aNB (by omega)];exact z2
   ·rw[aNB (by omega)];exact z3
   ·exact Jo
   ·exact Jo
  ·have e2:decide (zh>0)=false:=bj hzh;simp only[↓aL,aM,↓aT,aJ,cH,↓reduceIte,aa,ah,ae,hl,g3,g4,g5,g10,g11,g12,ci,mZ,pa,b0,e1,e2,Xj,vQ,hch,l1,l2,l23,s2,p2,Pn,Py,Pa,Pb,Pd,Oy,k2,aTs,aLk];refine bK ?_;refine⟨_,?_,i+1,[.bool yU,yS,.bool yV,yT],[.bool bn0,bm0,.bool bn1,bm1],(H2++[.cells .live [.bool Uy,Us,.bool Uz,Ut,.bool UA,Uu,.bool UB,Uv,.bool UC,Uw,.bool UD,Ux],.cells .live [.bool yU,yS,.bool yV,yT]]),rfl,(by simp[bc,hl]),?_⟩
   ·first|omega|(simp;omega)
   simp only[aZ,hl,aa,ae,g3,g4,g5,g10,g11]
   iterate 7 refine cG ?_
   refine⟨?_,?_,?_,?_,?_,?_⟩
   ·omega
   ·rw[aNB (by omega)];exact x1
   ·rw[aNB (by omega)];exact x2
   ·rw[aNB (by omega)];exact h23
   ·exact Jo
   ·exact EG
 ·have e1:decide (zl<0)=false:=bj Eh;by_cases hzh:zh>0
  ·have e2:decide (zh>0)=true:=bh hzh;simp only[↓aL,aM,↓aT,aJ,cH,↓reduceIte,aa,ah,ae,hl,g3,g4,g5,g10,g11,g12,ci,mZ,pa,b0,e1,e2,Xj,vQ,hch,l1,l2,l3,s3,p3,Pn,Py,Pa,Pb,Pd,Oy,aTs,aLk];refine bK ?_;refine⟨_,?_,i+1,[.bool an0,am0,.bool an1,am1],[.bool yU,yS,.bool yV,yT],(H3++[.cells .live [.bool Uy,Us,.bool Uz,Ut,.bool UA,Uu,.bool UB,Uv,.bool UC,Uw,.bool UD,Ux],.cells .live [.bool yU,yS,.bool yV,yT]]),rfl,(by simp[bc,hl]),?_⟩
   ·first|omega|(simp;omega)
   simp only[aZ,hl,aa,ae,g3,g4,g5,g10,g11]
   iterate 7 refine cG ?_
   refine⟨?_,?_,?_,?_,?_,?_⟩
   ·omega
   ·rw[aNB (by omega)];exact y1
   ·rw[aNB (by omega)];exact y2
   ·rw[aNB (by omega)];exact y3
   ·exact ik
   ·exact Jo
  ·have e2:decide (zh>0)=false:=bj hzh;simp only[↓aL,aM,↓aT,aJ,cH,↓reduceIte,aa,ah,ae,hl,g3,g4,g5,g10,g11,g12,ci,mZ,pa,b0,e1,e2,Xj,vQ,hch,l1,l2,l3,Pn,Py,Pa,Pb,Pd,Oy,aTs,aLk];refine bK ?_;refine⟨_,?_,i+1,[.bool an0,am0,.bool an1,am1],[.bool bn0,bm0,.bool bn1,bm1],(H++[.cells .live [.bool Uy,Us,.bool Uz,Ut,.bool UA,Uu,.bool UB,Uv,.bool UC,Uw,.bool UD,Ux],.cells .live [.bool yU,yS,.bool yV,yT]]),rfl,(by simp[bc,hl]),?_⟩
   ·first|omega|(simp;omega)
   simp only[aZ,hl,aa,ae,g3,g4,g5,g10,g11]
   iterate 7 refine cG ?_
   refine⟨?_,?_,?_,?_,?_,?_⟩
   ·omega
   ·rw[aNB (by omega)];exact h1
   ·rw[aNB (by omega)];exact h2
   ·rw[aNB (by omega)];exact h3
   ·exact ik
   ·exact EG
def xU{l:Rws}{t:List AV}{K:Nat}(hv:∀r∈l,gK K r)(ht:gK K t)(hK:K<=1000000:=by omega)(hn:l.length<1000:=by omega):
  ∃r,aR E 214 [lR l.flatten l.length,.agg t,.func 187 [] []]=some r/\∃(p:Nat) (f:Bool),r=.tuple [.int .i64 (p:Int),.bool f]/\p<=l.length:=by
 obtain⟨va,Sv⟩:∃va,va=lR l.flatten l.length:=⟨_,rfl⟩;rw[<-Sv];have qA:kC va=some ((l.length:Nat):Int):=by rw[Sv];exact nU
 have kU:=fun{dr st:Bool} {bl:List AV} {H:Hp} {k:AV->cC->Prop}=>kH (E:=E) (dr:=dr) (st:=st) (f:=187) (bl:=bl) (H:=H) (k:=k) (bM C)
 obtain⟨ta,hta,htb⟩:=ht.ex;obtain⟨tn0,tm0,tn1,tm1,tn2,tm2,tn3,tm3,tn4,tm4,tn5,tm5,et,-,-,-,Pt,Ot⟩:=dC hta;injection et with et
 subst et;refine gw3 arC ?_;intro ts hl g0 g1 g2;unfold apf;simp only[↓aL,aM,aJ,aa,ae,Tryz.f214,hl,g0,g1,qA];refine cE (fun k_ ts H=>∃i:Nat,∃j:Nat,k_=(j-i:Nat)/\ts.length=49/\gt ts 0=va/\gt ts 2=.func 187 [] []/\gt ts 4=.bI 0 0/\gt ts 8=.int .i64 (l.length:Int)/\gt ts 9=.int .i64 (i:Int)/\gt ts 10=.int .i64 (j:Int)/\H=[.cells .live [.bool tn0,tm0,.bool tn1,tm1,.bool tn2,tm2,.bool tn3,tm3,.bool tn4,tm4,.bool tn5,tm5]]/\(i<=j)/\(j<=l.length)) (l.length) ?_ ?_
 rotate_left
 ·refine⟨0,l.length,(by first|omega|rfl|simp),(by simp[bc,hl]),?_⟩;simp only[aZ,hl,aa,ae,g0,g2]
  iterate 7 refine cG ?_
  refine⟨?_,?_⟩
  ·first|omega|trivial
  ·first|omega|trivial
 clear hl g0 g1 g2 ts;rintro k_ ts H ⟨i,j,rfl,hl,g0,g2,g4,g8,g9,g10,rfl,tA,hjn⟩;refine VS ?_;by_cases hd:i<j
 rotate_left
 ·have d1:decide ((i:Int)<(j:Int))=false:=bj;by_cases Ir:i<l.length
  rotate_left
  ·have d2:decide ((i:Int)<(l.length:Int))=false:=bj;simp only[↓aL,aM,aJ,↓reduceIte,aa,ah,ae,hl,g8,g9,g10,d1,d2];exact⟨i,_,rfl,by omega⟩
  have d2:decide ((i:Int)<(l.length:Int))=true:=bh;have Uk:AV.aK l.flatten l.length=va:=by rw[Sv];exact(gf).symm
  rw[<-Uk]at g0;have ci:=eT (i:=i) (n:=l.length) Ir;have pa:=rP hv Ir;have o5:=hv _ (aLr Ir);generalize l[i]=row at pa o5;obtain⟨a2,CU,sn⟩:=o5.ex;have hc:=mC (E:=E) CU hta sn htb;obtain⟨Uy,Us,Uz,Ut,UA,Uu,UB,Uv,UC,Uw,UD,Ux,ey,-,-,-,Py,Oy⟩:=dC CU;injection ey with ey
  subst ey;simp only[↓aL,aM,aJ,↓reduceIte,aa,ah,ae,hl,g0,g2,g4,g8,g9,g10,d1,kU,ci,pa,hc,Pt,Py];exact⟨i,_,rfl,by omega⟩
 have d1:decide ((i:Int)<(j:Int))=true:=bh;have w1:=wz (z:=(i:Int)+(j:Int)) (m:=i+j);have w2:aW .u64 ((i+j:Nat):Int)=((i+j:Nat):Int):=wrap_u64;have r8:∀{c:Bool} {t:Nat},cd E c .shr t (.int .u64 ((i+j:Nat):Int)) (.int .u64 1)=some (.int .u64 (((i+j)/2:Nat):Int)):=by
  intro c t
  have:=BD (E:=E) (c:=c) (t:=t) (k:=.u64) (k':=.u64) (a:=i+j) (n:=1)
  simpa using this
 have Js:(i+j)/2<l.length:=by omega
 have hmi:i<=(i+j)/2:=by omega
 have hmj:(i+j)/2<j:=by omega
 generalize(i+j)/2=m at r8 Js hmi hmj;have w3:aW .i64 ((m:Nat):Int)=((m:Nat):Int):=wz rfl;have w4:=wz (z:=(m:Int)+1) (m:=m+1);have Uk:AV.aK l.flatten l.length=va:=by rw[Sv];exact(gf).symm
 rw[<-Uk]at g0;have ci:=eT (i:=m) (n:=l.length) Js;have pa:=rP hv Js;have o5:=hv _ (aLr Js);generalize l[m]=row at pa o5;obtain⟨a2,CU,sn⟩:=o5.ex;have hc:=mC (E:=E) CU hta sn htb;obtain⟨Uy,Us,Uz,Ut,UA,Uu,UB,Uv,UC,Uw,UD,Ux,ey,-,-,-,Py,Oy⟩:=dC CU;injection ey with ey
 subst ey;generalize OZ a2 ta=z at hc;by_cases hz:z<0
 ·have e1:decide (z<0)=true:=bh hz;simp only[↓aL,aM,aJ,↓reduceIte,aa,ah,ae,↓eh yp Up,↓eh Up yp,hl,g0,g2,g4,g9,g10,d1,kU,w1,w2,w3,w4,r8,ci,pa,hc,Pt,Py,e1,eL];refine bK ?_;refine⟨_,?_,m+1,j,rfl,(by simp[bc,hl]),?_⟩
  ·first|omega|(simp;omega)
  simp only[aZ,hl,aa,ae,g0,g2,g4,g8,g10]
  iterate 7 refine cG ?_
  refine⟨?_,?_⟩
  ·omega
  ·omega
 ·have e1:decide (z<0)=false:=bj hz;simp only[↓aL,aM,aJ,↓reduceIte,aa,ah,ae,↓eh yp Up,↓eh Up yp,hl,g0,g2,g4,g9,g10,d1,kU,w1,w2,w3,r8,ci,pa,hc,Pt,Py,e1,eL];refine bK ?_;refine⟨_,?_,i,m,rfl,(by simp[bc,hl]),?_⟩
  ·first|omega|(simp;omega)
  simp only[aZ,hl,aa,ae,g0,g2,g4,g8,g9]
  iterate 7 refine cG ?_
  refine⟨?_,?_⟩
  ·omega
  ·omega
def Ol{v:AV}(h:ky v v0){k:Nat}(hb:BV k v0)(hk:k<=1000000):
  aR E 126 [v]=some (.tuple [.agg [.bool false,.aH,.bool false,.aH,.bool false,.aH,.bool false,.aH,.bool false,.aH,.bool false,.aH],.int .i64 19]):=by
 suffices hh:∃r,aR E 126 [v]=some r/\r=.tuple [.agg [.bool false,.aH,.bool false,.aH,.bool false,.aH,.bool false,.aH,.bool false,.aH,.bool false,.aH],.int .i64 19]by obtain⟨r,h1,rfl⟩:=hh;exact h1
 have hz:=tH (E:=E) h hb;rw[bh rfl]at hz;obtain⟨xp,we,xq,wg,zf,y8,zg,y9,zj,za,zk,zd,rfl,-,-,-,P,O⟩:=dC h;refine qj af8 ?_;intro ts hl g0;unfold aib;simp only[↓aL,aM,↓aT,aJ,↓reduceIte,aa,ah,ae,Tryz.f126,hl,g0,hz,P]
def kT{s:Nat}:∀{l:List (List AV)} (p:Nat),(∀r∈l,r.length=s)->l.flatten.take (p*s)=(l.take p).flatten
 |[],p,_=>by simp
 |r::l,0,_=>by simp
 |r::l,p+1,h=>by
  have hr:=h r (by simp);have ih:=kT (l:=l) p fun x hx=>h x (by simp[hx])
  rw[aO8,List.take_succ_cons,aO8,Nat.add_mul,Nat.one_mul,Nat.add_comm,<-hr,List.take_length_add_append,hr,ih]
def nW{s:Nat}:∀{l:List (List AV)} (p:Nat),(∀r∈l,r.length=s)->l.flatten.drop (p*s)=(l.drop p).flatten
 |[],p,_=>by simp
 |r::l,0,_=>by simp
 |r::l,p+1,h=>by
  have hr:=h r (by simp);have ih:=nW (l:=l) p fun x hx=>h x (by simp[hx])
  rw[aO8,List.drop_succ_cons,Nat.add_mul,Nat.one_mul,Nat.add_comm,<-hr,List.drop_length_add_append,hr,ih]
def pH{al:List AV}{H H':Hp}{r:AV}(h:JA al H=some (r,H')):cR E 215 al H=some (r,H'):=by
 have ke:E.rC 215 al H=some (r,H'):=by rw[C.rC,Zm];exact h
 exact zB ⟨0,by unfold kQ;rw[ke]⟩
def amo(a b:V3):V3:=⟨a.x-b.x,a.y-b.y,a.z-b.z⟩
def TT{k l:Nat}{a b:V3}(ba:BV k a)(bb:BV l b):BV (k+l+1) (amo a b):=⟨ba.1.sub bb.1,ba.2.1.sub bb.2.1,ba.2.2.sub bb.2.2⟩
def aat{k:Nat}{a:V3}(h:BV k a):BV (k+2) (amn a):=⟨(PD.sub h.1).mono (by omega),(PD.sub h.2.1).mono (by omega),(PD.sub h.2.2).mono (by omega)⟩
def TU{v w:AV}{a b:V3}(h:ky v a)(h':ky w b){k l:Nat}(ba:BV k a)(bb:BV l b)(hk:k+l<=100000000000):∃r,aR E 141 [v,w]=some r/\ky r (amo a b):=by obtain⟨r,hr,ir⟩:=uy (E:=E) (f:=152) (fc:=[]) agP rfl h h' (c:=amo a b) (fun x y hx hy=>mi (E:=E) hx hy ba.1 bb.1 hk) (fun x y hx hy=>mi (E:=E) hx hy ba.2.1 bb.2.1 hk) (fun x y hx hy=>mi (E:=E) hx hy ba.2.2 bb.2.2 hk);obtain⟨n0,m0,n1,m1,n2,m2,n3,m3,n4,m4,n5,m5,rfl,-,-,-,P,O⟩:=dC h;obtain⟨p0,q0,p1,q1,p2,q2,p3,q3,p4,q4,p5,q5,rfl,-,-,-,P',O'⟩:=dC h';obtain⟨s0,t0,s1,t1,s2,t2,s3,t3,s4,t4,s5,t5,rfl,-,-,-,P2,O2⟩:=dC ir;refine pX aqV ?_;intro ts hl g0 g1;unfold aou;simp only[↓aL,aM,↓aT,aJ,↓reduceIte,aa,ah,ae,Tryz.f141,hl,g0,g1,P,P',P2,O2,hr];exact ir
def Oo{v:AV}{a:V3}(h:ky v a){k:Nat}(ba:BV k a)(hk:k<=1000000):∃(r:List AV) (c:Int),aR E 126 [v]=some (.tuple [.agg r,.int .i64 c])/\gK (8*k+2) r:=by
 by_cases hz:a=v0
 ·subst hz;exact⟨_,_,Ol h ba hk,⟨v0,O7,bv0.mono (by omega)⟩⟩
 ·obtain⟨r,h1,h2⟩:=tR (E:=E) h ba (by omega) hz;obtain⟨xp,we,xq,wg,zf,y8,zg,y9,zj,za,zk,zd,rfl,-⟩:=id h2;exact⟨_,_,h1,⟨_,h2,Gk ba hz⟩⟩
def rW{s:Sh}(hs:qV s):
  ∃r,aR E 173 [.agg (qk s)]=some r/\∃l:Rws,r=lR l.flatten l.length/\(∀r∈l,gK 300 r)/\l.length<=64:=by
 obtain⟨vs,fs,es⟩:=s;have hv:∀r∈vs,gK 13 r:=hs.vs;have hv8:vs.length<=8:=hs.n8;have yX:∀e∈es,e.1<vs.length/\e.2.1<vs.length:=hs.es;have aGf:es.length<=64:=hs.e64;obtain⟨va,Sv⟩:∃va,va=lR vs.flatten vs.length:=⟨_,rfl⟩;obtain⟨fa,hfa⟩:∃fa,fa=lR (xf fs) fs.length:=⟨_,rfl⟩;obtain⟨ea,hea⟩:∃ea,ea=lR (rX es) es.length:=⟨_,rfl⟩;have r8:qk ⟨vs,fs,es⟩=[va,fa,ea]:=by rw[Sv,hfa,hea];rfl
 rw[r8];have hle:kC ea=some ((es.length:Nat):Int):=by rw[hea];exact nU
 have oo:cL va=true/\cL fa=true/\cL ea=true:=⟨by rw[Sv];exact mB,by rw[hfa];exact mB,by rw[hea];exact mB⟩;refine qj ard ?_;intro ts hl g0;unfold aoL;simp only[↓aL,aM,aJ,aa,ae,Tryz.f173,hl,g0,hle];refine cE (fun k_ ts H=>∃i:Nat,∃v:AV,∃l:Rws,∃H1:Hp,k_=(es.length-i:Nat)/\ts.length=55/\gt ts 1=.bI 0 0/\gt ts 3=v/\gt ts 11=ea/\gt ts 12=.int .i64 (es.length:Int)/\gt ts 13=.int .i64 (i:Int)/\H=H1/\(i<=es.length)/\(H1[0]?=some (.cells .live [va,fa,ea]))/\(∀r∈l,gK 300 r)/\(l.length<=i)/\(uo 12 1 v H1 l.length l.flatten)) (es.length) ?_ ?_
 rotate_left
 ·refine⟨0,.aH,[],[.cells .live [va,fa,ea]],(by first|omega|rfl|simp),(by simp[bc,hl]),?_⟩;simp only[aZ,hl,aa,ae]
  iterate 6 refine cG ?_
  refine⟨?_,?_,?_,?_,?_⟩
  ·first|omega|trivial
  ·first|rfl|trivial
  ·first|(intro r hr;cases hr)|trivial
  ·first|exact Nat.le_refl _|trivial
  ·first|exact .inl ⟨rfl,rfl,rfl⟩|trivial
 clear hl g0 ts;rintro k_ ts H ⟨i,v,l,H1,rfl,hl,g1,g3,g11,g12,g13,rfl,hi,h0,qA,hll,C0⟩;refine VS ?_;by_cases hd:i<es.length
 rotate_left
 ·have d1:decide ((i:Int)<(es.length:Int))=false:=bj;obtain⟨bs,fY⟩:=C0.fz (oM qA) (vn qA);simp only[↓aL,aM,↓reduceIte,aa,ae,hl,g3,g12,g13,d1,fY];exact⟨l,rfl,qA,by omega⟩
 have d1:decide ((i:Int)<(es.length:Int))=true:=bh;have hex:AV.aK (rX es) es.length=ea:=by rw[hea];exact(gf).symm
 rw[<-hex]at g11;have ci:=eT (i:=i) (n:=es.length) hd;have mZ:=wz (z:=(i:Int)+1) (m:=i+1);have pe:fG true 4 (rX es) (i*4)=some (.agg (PT es[i])):=by
  have h1:(es.map PT)[i]?=some (PT es[i]):=by rw[aMf,aLh hd];rfl
  have h2:=jz (Cy es) h1;have h3:=iM (Cy es) (j:=i) (by simpa using hd);unfold rX;rw[jd (s:=4) h3,h2]
 have heo:=yX _ (aLr hd);generalize es[i]=ed at pe heo;obtain⟨x,y,f0,f1⟩:=ed;simp only[PT]at pe;obtain⟨hx,hy⟩:x<vs.length/\y<vs.length:=heo;have Uk:AV.aK vs.flatten vs.length=va:=by rw[Sv];exact(gf).symm
 have cx:=eT (i:=x) (n:=vs.length) hx;have cy:=eT (i:=y) (n:=vs.length) hy;have px:=rP hv hx;have py:=rP hv hy;obtain⟨ax,Ub,hbx⟩:=(hv _ (aLr hx)).ex;obtain⟨ay,hay,hby⟩:=(hv _ (aLr hy)).ex;generalize vs[x]=rx at px Ub;generalize vs[y]=ry at py hay;obtain⟨sb,hsb,hVs⟩:=TU (E:=E) hay Ub hby hbx (by omega);have D9:=TT hby hbx;obtain⟨pr,pc,hpr,agG⟩:=Oo (E:=E) hVs D9 (by omega);obtain⟨ap,hap,hbp⟩:=agG.ex;have hcm:=mC (E:=E) hap O7 hbp bv0;obtain⟨ng,hng,hVn⟩:=TS (E:=E) hap hbp (by omega);have Uc:=aat hbp;obtain⟨xp,we,xq,wg,zf,y8,zg,y9,zj,za,zk,zd,ex,-,-,-,Px,Ox⟩:=dC Ub;injection ex with ex
 subst ex;obtain⟨Uy,Us,Uz,Ut,UA,Uu,UB,Uv,UC,Uw,UD,Ux,ey,-,-,-,Py,Oy⟩:=dC hay;injection ey with ey
 subst ey;obtain⟨sn0,sm0,sn1,sm1,sn2,sm2,sn3,sm3,sn4,sm4,sn5,sm5,rfl,-,-,-,Ps,Os⟩:=dC hVs;obtain⟨uO,uI,uP,uJ,uQ,uK,uR,uL,uS,uM,uT,uN,ep,-,-,-,Pp,Op⟩:=dC hap;injection ep with ep
 subst ep;obtain⟨jq,jm,jr,ja,jt,jb,ju,jc,jv,jn,jw,jo,rfl,-,-,-,Pn,On⟩:=dC hVn;have vR:gK 300 [.bool uO,uI,.bool uP,uJ,.bool uQ,uK,.bool uR,uL,.bool uS,uM,.bool uT,uN]:=agG.mono (by omega);have Qi:gK 300 [.bool jq,jm,.bool jr,ja,.bool jt,jb,.bool ju,jc,.bool jv,jn,.bool jw,jo]:=⟨_,hVn,Uc.mono (by omega)⟩;have Jq:1<=H.length:=by have:=(aKB.1 h0).1;omega
 have Fl:∀{T:Hp},cellAt (H++T) 0 0=some va:=by intro T;rw[bX,aNB (by omega),h0];rfl
 have n1:∀{j:Nat},(0==H.length+j)=false:=fun{j}=>beq_eq_false_iff_ne.2 (by omega)
 have n2:∀{j:Nat},(H.length+j==0)=false:=fun{j}=>beq_eq_false_iff_ne.2 (by omega)
 rw[<-Uk]at Fl;generalize OZ ap v0=zc at hcm;by_cases hzc:zc<0
 ·have ez:decide (zc<0)=true:=bh hzc;have tD:gK 300 [.bool jq,jm,.bool jr,ja,.bool jt,jb,.bool ju,jc,.bool jv,jn,.bool jw,jo]:=Qi;have hoD:=tD.one;obtain⟨br,Xe,pp,fd,rfl,hpp⟩:=xU (E:=E) (K:=300) qA tD;obtain⟨ub,akk⟩:=(C0.app (l:=[.cells .live [.int .i64 (x:Int),.int .i64 (y:Int),.int .i64 (f0:Int),.int .i64 (f1:Int)],.cells .live [.bool jq,jm,.bool jr,ja,.bool jt,jb,.bool ju,jc,.bool jv,jn,.bool jw,jo]])).fr (oM qA) (eu.flat (vn qA));obtain⟨u,fY⟩:∃u,qR (aU v) (H++[.cells .live [.int .i64 (x:Int),.int .i64 (y:Int),.int .i64 (f0:Int),.int .i64 (f1:Int)],.cells .live [.bool jq,jm,.bool jr,ja,.bool jt,jb,.bool ju,jc,.bool jv,jn,.bool jw,jo]]) [v,.agg [.bool jq,jm,.bool jr,ja,.bool jt,jb,.bool ju,jc,.bool jv,jn,.bool jw,jo],.func 187 [] []]=some ([lR l.flatten l.length,.agg [.bool jq,jm,.bool jr,ja,.bool jt,jb,.bool ju,jc,.bool jv,jn,.bool jw,jo],.func 187 [] []],u):=by
   have h:=BA (H:=H++[.cells .live [.int .i64 (x:Int),.int .i64 (y:Int),.int .i64 (f0:Int),.int .i64 (f1:Int)],.cells .live [.bool jq,jm,.bool jr,ja,.bool jt,jb,.bool ju,jc,.bool jv,jn,.bool jw,jo]]) (m:=2) (eu.cons akk (eu.cons (Fr.agg (eu.flat tD.flat)) (eu.cons ((Fr.flat CK).up (by omega)) eu.nil))) (by omega) (l:=[v,.agg [.bool jq,jm,.bool jr,ja,.bool jt,jb,.bool ju,jc,.bool jv,jn,.bool jw,jo],.func 187 [] []]) (fun hp=>by
    have xi:aU v=true:=by simp only[aV,aMh]at hp;exact hp.1
    rw[C0.Ra xi])
   rw[show aV [v,.agg [.bool jq,jm,.bool jr,ja,.bool jt,jb,.bool ju,jc,.bool jv,jn,.bool jw,jo],.func 187 [] []]=aU v by simp[aV,aU,Pn]]at h;exact h
  have hrt:bY (.tuple [.int .i64 ((pp:Nat):Int),.bool fd])=true:=rfl;cases fd
  rotate_left
  ·simp only[↓aL,aM,↓aT,aJ,cH,↓reduceIte,aa,ah,ae,hl,g1,g3,g11,g12,g13,ci,mZ,pe,Fl,cx,cy,px,py,hsb,hpr,hcm,ez,hng,n1,Px,Py,Ps,Pp,Pn,Op,On,fY,Xe,eL,hrt,aTs,aLk];refine bK ?_;refine⟨_,?_,i+1,v,l,(H++[.cells .live [.int .i64 (x:Int),.int .i64 (y:Int),.int .i64 (f0:Int),.int .i64 (f1:Int)],.cells .live [.bool jq,jm,.bool jr,ja,.bool jt,jb,.bool ju,jc,.bool jv,jn,.bool jw,jo]]),rfl,(by simp[bc,hl]),?_⟩
   ·first|omega|(simp;omega)
   simp only[aZ,hl,aa,ae,g1,g3,g11,g12]
   iterate 6 refine cG ?_
   refine⟨?_,?_,?_,?_,?_⟩
   ·omega
   ·rw[aNB (by omega)];exact h0
   ·exact qA
   ·omega
   ·exact C0.app
  have Xf:∀aP,bQ E aP 135 1 [(0,AV.agg [.bool jq,jm,.bool jr,ja,.bool jt,jb,.bool ju,jc,.bool jv,jn,.bool jw,jo])]=some (.aI aP 0 1 12 1,[(aP,.cells .live [.bool jq,jm,.bool jr,ja,.bool jt,jb,.bool ju,jc,.bool jv,jn,.bool jw,jo])]):=fun aP=>jJ AZ rfl (by decide) (by decide) rfl
  have hcD:(H++[ct.cells .live [.int .i64 (x:Int),.int .i64 (y:Int),.int .i64 (f0:Int),.int .i64 (f1:Int)],.cells .live [.bool jq,jm,.bool jr,ja,.bool jt,jb,.bool ju,jc,.bool jv,jn,.bool jw,jo],.cells .live [.bool jq,jm,.bool jr,ja,.bool jt,jb,.bool ju,jc,.bool jv,jn,.bool jw,jo]])[H.length+2]?=some (.cells .live [.bool jq,jm,.bool jr,ja,.bool jt,jb,.bool ju,jc,.bool jv,jn,.bool jw,jo]):=by simp
  have hHl:(H++[ct.cells .live [.int .i64 (x:Int),.int .i64 (y:Int),.int .i64 (f0:Int),.int .i64 (f1:Int)],.cells .live [.bool jq,jm,.bool jr,ja,.bool jt,jb,.bool ju,jc,.bool jv,jn,.bool jw,jo],.cells .live [.bool jq,jm,.bool jr,ja,.bool jt,jb,.bool ju,jc,.bool jv,jn,.bool jw,jo]]).length=H.length+3:=by simp
  rcases C0 with⟨e0,e1,rfl⟩|⟨k0,b,bL,bl,rfl,hb⟩
  ·have MR:cR E 215 [.aH,.int .i64 ((pp:Nat):Int),.aI (H.length+2) 0 1 12 1] (H++[.cells .live [.int .i64 (x:Int),.int .i64 (y:Int),.int .i64 (f0:Int),.int .i64 (f1:Int)],.cells .live [.bool jq,jm,.bool jr,ja,.bool jt,jb,.bool ju,jc,.bool jv,jn,.bool jw,jo],.cells .live [.bool jq,jm,.bool jr,ja,.bool jt,jb,.bool ju,jc,.bool jv,jn,.bool jw,jo]])=some (.aI (H.length+3) 0 1 12 1,H++[.cells .live [.int .i64 (x:Int),.int .i64 (y:Int),.int .i64 (f0:Int),.int .i64 (f1:Int)],.cells .live [.bool jq,jm,.bool jr,ja,.bool jt,jb,.bool ju,jc,.bool jv,jn,.bool jw,jo],.cells .live [.bool jq,jm,.bool jr,ja,.bool jt,jb,.bool ju,jc,.bool jv,jn,.bool jw,jo],.cells .live [.bool jq,jm,.bool jr,ja,.bool jt,jb,.bool ju,jc,.bool jv,jn,.bool jw,jo]]):=by
    have sy:pp=0:=by omega
    have h:=JC hcD rfl hoD;rw[hHl,aTs]at h;rw[sy];exact pH h
   rw[show lR l.flatten l.length=.aH by rw[e1,e0];rfl]at Xe;simp only[↓aL,aM,↓aT,aJ,cH,↓reduceIte,aa,ah,ae,hl,g1,g3,g11,g12,g13,ci,mZ,pe,Fl,cx,cy,px,py,hsb,hpr,hcm,ez,hng,n1,Px,Py,Ps,Pp,Pn,Op,On,Xe,eL,hrt,Xf,MR,aTs,aLk];refine bK ?_;refine⟨_,?_,i+1,(.aI (H.length+3) 0 1 12 1),[[.bool jq,jm,.bool jr,ja,.bool jt,jb,.bool ju,jc,.bool jv,jn,.bool jw,jo]],(H++[.cells .live [.int .i64 (x:Int),.int .i64 (y:Int),.int .i64 (f0:Int),.int .i64 (f1:Int)],.cells .live [.bool jq,jm,.bool jr,ja,.bool jt,jb,.bool ju,jc,.bool jv,jn,.bool jw,jo],.cells .live [.bool jq,jm,.bool jr,ja,.bool jt,jb,.bool ju,jc,.bool jv,jn,.bool jw,jo],.cells .live [.bool jq,jm,.bool jr,ja,.bool jt,jb,.bool ju,jc,.bool jv,jn,.bool jw,jo]]),rfl,(by simp[bc,hl]),?_⟩
   ·first|omega|(simp;omega)
   simp only[aZ,hl,aa,ae,g1,g11,g12]
   iterate 6 refine cG ?_
   refine⟨?_,?_,?_,?_,?_⟩
   ·omega
   ·rw[aNB (by omega)];exact h0
   ·intro r hr;rw[aMs]at hr;subst hr;exact tD
   ·simp
   ·exact .inr ⟨by simp,H.length+3,by omega,by simp,rfl,by simp⟩
  rw[show aU (.aI b 0 l.length 12 l.length)=false from rfl]at fY;rw[gf k0]at Xe fY;obtain⟨H3,pE⟩:∃H3,H3=H.set b (.cells .dead []):=⟨_,rfl⟩;have GZ:H3.length=H.length:=by rw[pE];simp
  obtain⟨l2,yj⟩:∃l2,l2=l.take pp++[[.bool jq,jm,.bool jr,ja,.bool jt,jb,.bool ju,jc,.bool jv,jn,.bool jw,jo]]++l.drop pp:=⟨_,rfl⟩;have aks:l2.length=l.length+1:=by rw[yj];simp;omega
  have akt:∀r∈l2,gK 300 r:=by
   intro r hr;rw[yj]at hr;rcases aMi.1 hr with hr|hr
   ·rcases aMi.1 hr with hr|hr
    ·exact qA r (aQN hr)
    ·rw[aMs]at hr;subst hr;exact tD
   ·exact qA r (aOD hr)
  have akr:l2.flatten=l.flatten.take (pp*12)++[.bool jq,jm,.bool jr,ja,.bool jt,jb,.bool ju,jc,.bool jv,jn,.bool jw,jo]++l.flatten.drop (pp*12):=by
   rw[yj,kT pp (j8 qA),nW pp (j8 qA),aWd,aWd];simp
  have MR:cR E 215 [.aI b 0 l.length 12 l.length,.int .i64 ((pp:Nat):Int),.aI (H.length+2) 0 1 12 1] (H++[.cells .live [.int .i64 (x:Int),.int .i64 (y:Int),.int .i64 (f0:Int),.int .i64 (f1:Int)],.cells .live [.bool jq,jm,.bool jr,ja,.bool jt,jb,.bool ju,jc,.bool jv,jn,.bool jw,jo],.cells .live [.bool jq,jm,.bool jr,ja,.bool jt,jb,.bool ju,jc,.bool jv,jn,.bool jw,jo]])=some (.aI (H.length+3) 0 (l.length+1) 12 (l.length+1),H3++[.cells .live [.int .i64 (x:Int),.int .i64 (y:Int),.int .i64 (f0:Int),.int .i64 (f1:Int)],.cells .live [.bool jq,jm,.bool jr,ja,.bool jt,jb,.bool ju,jc,.bool jv,jn,.bool jw,jo],.cells .live [.bool jq,jm,.bool jr,ja,.bool jt,jb,.bool ju,jc,.bool jv,jn,.bool jw,jo],.cells .live l2.flatten]):=by have h:=JB hcD rfl hoD (b:=b) (n:=l.length) (i:=pp) (cs:=l.flatten) (by rw[aNB bl];exact hb) (oM qA) (DX qA) k0 (by omega) hpp;rw[hHl,aVt _ _ bl,<-pE,<-akr,aTs]at h;exact pH h
  simp only[↓aL,aM,↓aT,aJ,cH,↓reduceIte,aa,ah,ae,hl,g1,g3,g11,g12,g13,ci,mZ,pe,Fl,cx,cy,px,py,hsb,hpr,hcm,ez,hng,n1,Px,Py,Ps,Pp,Pn,Op,On,fY,Xe,eL,hrt,Xf,MR,aTs,aLk];refine bK ?_;refine⟨_,?_,i+1,(.aI (H.length+3) 0 (l.length+1) 12 (l.length+1)),l2,(H3++[.cells .live [.int .i64 (x:Int),.int .i64 (y:Int),.int .i64 (f0:Int),.int .i64 (f1:Int)],.cells .live [.bool jq,jm,.bool jr,ja,.bool jt,jb,.bool ju,jc,.bool jv,jn,.bool jw,jo],.cells .live [.bool jq,jm,.bool jr,ja,.bool jt,jb,.bool ju,jc,.bool jv,jn,.bool jw,jo],.cells .live l2.flatten]),rfl,(by simp[bc,hl]),?_⟩
  ·first|omega|(simp;omega)
  simp only[aZ,hl,aa,ae,g1,g11,g12]
  iterate 6 refine cG ?_
  refine⟨?_,?_,?_,?_,?_⟩
  ·omega
  ·rw[aNB (by omega),pE,aNt (by omega)];exact h0
  ·exact akt
  ·omega
  ·rw[aks];exact .inr ⟨by omega,H.length+3,by omega,by simp[GZ],rfl,by rw[<-GZ];simp⟩
 ·have ez:decide (zc<0)=false:=bj hzc;have tD:gK 300 [.bool uO,uI,.bool uP,uJ,.bool uQ,uK,.bool uR,uL,.bool uS,uM,.bool uT,uN]:=vR;have hoD:=tD.one;obtain⟨br,Xe,pp,fd,rfl,hpp⟩:=xU (E:=E) (K:=300) qA tD;obtain⟨ub,akk⟩:=(C0.app (l:=[.cells .live [.int .i64 (x:Int),.int .i64 (y:Int),.int .i64 (f0:Int),.int .i64 (f1:Int)],.cells .live [.bool uO,uI,.bool uP,uJ,.bool uQ,uK,.bool uR,uL,.bool uS,uM,.bool uT,uN]])).fr (oM qA) (eu.flat (vn qA));obtain⟨u,fY⟩:∃u,qR (aU v) (H++[.cells .live [.int .i64 (x:Int),.int .i64 (y:Int),.int .i64 (f0:Int),.int .i64 (f1:Int)],.cells .live [.bool uO,uI,.bool uP,uJ,.bool uQ,uK,.bool uR,uL,.bool uS,uM,.bool uT,uN]]) [v,.agg [.bool uO,uI,.bool uP,uJ,.bool uQ,uK,.bool uR,uL,.bool uS,uM,.bool uT,uN],.func 187 [] []]=some ([lR l.flatten l.length,.agg [.bool uO,uI,.bool uP,uJ,.bool uQ,uK,.bool uR,uL,.bool uS,uM,.bool uT,uN],.func 187 [] []],u):=by
   have h:=BA (H:=H++[.cells .live [.int .i64 (x:Int),.int .i64 (y:Int),.int .i64 (f0:Int),.int .i64 (f1:Int)],.cells .live [.bool uO,uI,.bool uP,uJ,.bool uQ,uK,.bool uR,uL,.bool uS,uM,.bool uT,uN]]) (m:=2) (eu.cons akk (eu.cons (Fr.agg (eu.flat tD.flat)) (eu.cons ((Fr.flat CK).up (by omega)) eu.nil))) (by omega) (l:=[v,.agg [.bool uO,uI,.bool uP,uJ,.bool uQ,uK,.bool uR,uL,.bool uS,uM,.bool uT,uN],.func 187 [] []]) (fun hp=>by
    have xi:aU v=true:=by simp only[aV,aMh]at hp;exact hp.1
    rw[C0.Ra xi])
   rw[show aV [v,.agg [.bool uO,uI,.bool uP,uJ,.bool uQ,uK,.bool uR,uL,.bool uS,uM,.bool uT,uN],.func 187 [] []]=aU v by simp[aV,aU,Pp]]at h;exact h
  have hrt:bY (.tuple [.int .i64 ((pp:Nat):Int),.bool fd])=true:=rfl;cases fd
  rotate_left
  ·simp only[↓aL,aM,↓aT,aJ,cH,↓reduceIte,aa,ah,ae,hl,g1,g3,g11,g12,g13,ci,mZ,pe,Fl,cx,cy,px,py,hsb,hpr,hcm,ez,n1,Px,Py,Ps,Pp,Op,fY,Xe,eL,hrt,aTs,aLk];refine bK ?_;refine⟨_,?_,i+1,v,l,(H++[.cells .live [.int .i64 (x:Int),.int .i64 (y:Int),.int .i64 (f0:Int),.int .i64 (f1:Int)],.cells .live [.bool uO,uI,.bool uP,uJ,.bool uQ,uK,.bool uR,uL,.bool uS,uM,.bool uT,uN]]),rfl,(by simp[bc,hl]),?_⟩
   ·first|omega|(simp;omega)
   simp only[aZ,hl,aa,ae,g1,g3,g11,g12]
   iterate 6 refine cG ?_
   refine⟨?_,?_,?_,?_,?_⟩
   ·omega
   ·rw[aNB (by omega)];exact h0
   ·exact qA
   ·omega
   ·exact C0.app
  have Xf:∀aP,bQ E aP 135 1 [(0,AV.agg [.bool uO,uI,.bool uP,uJ,.bool uQ,uK,.bool uR,uL,.bool uS,uM,.bool uT,uN])]=some (.aI aP 0 1 12 1,[(aP,.cells .live [.bool uO,uI,.bool uP,uJ,.bool uQ,uK,.bool uR,uL,.bool uS,uM,.bool uT,uN])]):=fun aP=>jJ AZ rfl (by decide) (by decide) rfl
  have hcD:(H++[ct.cells .live [.int .i64 (x:Int),.int .i64 (y:Int),.int .i64 (f0:Int),.int .i64 (f1:Int)],.cells .live [.bool uO,uI,.bool uP,uJ,.bool uQ,uK,.bool uR,uL,.bool uS,uM,.bool uT,uN],.cells .live [.bool uO,uI,.bool uP,uJ,.bool uQ,uK,.bool uR,uL,.bool uS,uM,.bool uT,uN]])[H.length+2]?=some (.cells .live [.bool uO,uI,.bool uP,uJ,.bool uQ,uK,.bool uR,uL,.bool uS,uM,.bool uT,uN]):=by simp
  have hHl:(H++[ct.cells .live [.int .i64 (x:Int),.int .i64 (y:Int),.int .i64 (f0:Int),.int .i64 (f1:Int)],.cells .live [.bool uO,uI,.bool uP,uJ,.bool uQ,uK,.bool uR,uL,.bool uS,uM,.bool uT,uN],.cells .live [.bool uO,uI,.bool uP,uJ,.bool uQ,uK,.bool uR,uL,.bool uS,uM,.bool uT,uN]]).length=H.length+3:=by simp
  rcases C0 with⟨e0,e1,rfl⟩|⟨k0,b,bL,bl,rfl,hb⟩
  ·have MR:cR E 215 [.aH,.int .i64 ((pp:Nat):Int),.aI (H.length+2) 0 1 12 1] (H++[.cells .live [.int .i64 (x:Int),.int .i64 (y:Int),.int .i64 (f0:Int),.int .i64 (f1:Int)],.cells .live [.bool uO,uI,.bool uP,uJ,.bool uQ,uK,.bool uR,uL,.bool uS,uM,.bool uT,uN],.cells .live [.bool uO,uI,.bool uP,uJ,.bool uQ,uK,.bool uR,uL,.bool uS,uM,.bool uT,uN]])=some (.aI (H.length+3) 0 1 12 1,H++[.cells .live [.int .i64 (x:Int),.int .i64 (y:Int),.int .i64 (f0:Int),.int .i64 (f1:Int)],.cells .live [.bool uO,uI,.bool uP,uJ,.bool uQ,uK,.bool uR,uL,.bool uS,uM,.bool uT,uN],.cells .live [.bool uO,uI,.bool uP,uJ,.bool uQ,uK,.bool uR,uL,.bool uS,uM,.bool uT,uN],.cells .live [.bool uO,uI,.bool uP,uJ,.bool uQ,uK,.bool uR,uL,.bool uS,uM,.bool uT,uN]]):=by
    have sy:pp=0:=by omega
    have h:=JC hcD rfl hoD;rw[hHl,aTs]at h;rw[sy];exact pH h
   rw[show lR l.flatten l.length=.aH by rw[e1,e0];rfl]at Xe;simp only[↓aL,aM,↓aT,aJ,cH,↓reduceIte,aa,ah,ae,hl,g1,g3,g11,g12,g13,ci,mZ,pe,Fl,cx,cy,px,py,hsb,hpr,hcm,ez,n1,Px,Py,Ps,Pp,Op,Xe,eL,hrt,Xf,MR,aTs,aLk];refine bK ?_;refine⟨_,?_,i+1,(.aI (H.length+3) 0 1 12 1),[[.bool uO,uI,.bool uP,uJ,.bool uQ,uK,.bool uR,uL,.bool uS,uM,.bool uT,uN]],(H++[.cells .live [.int .i64 (x:Int),.int .i64 (y:Int),.int .i64 (f0:Int),.int .i64 (f1:Int)],.cells .live [.bool uO,uI,.bool uP,uJ,.bool uQ,uK,.bool uR,uL,.bool uS,uM,.bool uT,uN],.cells .live [.bool uO,uI,.bool uP,uJ,.bool uQ,uK,.bool uR,uL,.bool uS,uM,.bool uT,uN],.cells .live [.bool uO,uI,.bool uP,uJ,.bool uQ,uK,.bool uR,uL,.bool uS,uM,.bool uT,uN]]),rfl,(by simp[bc,hl]),?_⟩
   ·first|omega|(simp;omega)
   simp only[aZ,hl,aa,ae,g1,g11,g12]
   iterate 6 refine cG ?_
   refine⟨?_,?_,?_,?_,?_⟩
   ·omega
   ·rw[aNB (by omega)];exact h0
   ·intro r hr;rw[aMs]at hr;subst hr;exact tD
   ·simp
   ·exact .inr ⟨by simp,H.length+3,by omega,by simp,rfl,by simp⟩
  rw[show aU (.aI b 0 l.length 12 l.length)=false from rfl]at fY;rw[gf k0]at Xe fY;obtain⟨H3,pE⟩:∃H3,H3=H.set b (.cells .dead []):=⟨_,rfl⟩;have GZ:H3.length=H.length:=by rw[pE];simp
  obtain⟨l2,yj⟩:∃l2,l2=l.take pp++[[.bool uO,uI,.bool uP,uJ,.bool uQ,uK,.bool uR,uL,.bool uS,uM,.bool uT,uN]]++l.drop pp:=⟨_,rfl⟩;have aks:l2.length=l.length+1:=by rw[yj];simp;omega
  have akt:∀r∈l2,gK 300 r:=by
   intro r hr;rw[yj]at hr;rcases aMi.1 hr with hr|hr
   ·rcases aMi.1 hr with hr|hr
    ·exact qA r (aQN hr)
    ·rw[aMs]at hr;subst hr;exact tD
   ·exact qA r (aOD hr)
  have akr:l2.flatten=l.flatten.take (pp*12)++[.bool uO,uI,.bool uP,uJ,.bool uQ,uK,.bool uR,uL,.bool uS,uM,.bool uT,uN]++l.flatten.drop (pp*12):=by
   rw[yj,kT pp (j8 qA),nW pp (j8 qA),aWd,aWd];simp
  have MR:cR E 215 [.aI b 0 l.length 12 l.length,.int .i64 ((pp:Nat):Int),.aI (H.length+2) 0 1 12 1] (H++[.cells .live [.int .i64 (x:Int),.int .i64 (y:Int),.int .i64 (f0:Int),.int .i64 (f1:Int)],.cells .live [.bool uO,uI,.bool uP,uJ,.bool uQ,uK,.bool uR,uL,.bool uS,uM,.bool uT,uN],.cells .live [.bool uO,uI,.bool uP,uJ,.bool uQ,uK,.bool uR,uL,.bool uS,uM,.bool uT,uN]])=some (.aI (H.length+3) 0 (l.length+1) 12 (l.length+1),H3++[.cells .live [.int .i64 (x:Int),.int .i64 (y:Int),.int .i64 (f0:Int),.int .i64 (f1:Int)],.cells .live [.bool uO,uI,.bool uP,uJ,.bool uQ,uK,.bool uR,uL,.bool uS,uM,.bool uT,uN],.cells .live [.bool uO,uI,.bool uP,uJ,.bool uQ,uK,.bool uR,uL,.bool uS,uM,.bool uT,uN],.cells .live l2.flatten]):=by have h:=JB hcD rfl hoD (b:=b) (n:=l.length) (i:=pp) (cs:=l.flatten) (by rw[aNB bl];exact hb) (oM qA) (DX qA) k0 (by omega) hpp;rw[hHl,aVt _ _ bl,<-pE,<-akr,aTs]at h;exact pH h
  simp only[↓aL,aM,↓aT,aJ,cH,↓reduceIte,aa,ah,ae,hl,g1,g3,g11,g12,g13,ci,mZ,pe,Fl,cx,cy,px,py,hsb,hpr,hcm,ez,n1,Px,Py,Ps,Pp,Op,fY,Xe,eL,hrt,Xf,MR,aTs,aLk];refine bK ?_;refine⟨_,?_,i+1,(.aI (H.length+3) 0 (l.length+1) 12 (l.length+1)),l2,(H3++[.cells .live [.int .i64 (x:Int),.int .i64 (y:Int),.int .i64 (f0:Int),.int .i64 (f1:Int)],.cells .live [.bool uO,uI,.bool uP,uJ,.bool uQ,uK,.bool uR,uL,.bool uS,uM,.bool uT,uN],.cells .live [.bool uO,uI,.bool uP,uJ,.bool uQ,uK,.bool uR,uL,.bool uS,uM,.bool uT,uN],.cells .live l2.flatten]),rfl,(by simp[bc,hl]),?_⟩
  ·first|omega|(simp;omega)
  simp only[aZ,hl,aa,ae,g1,g11,g12]
  iterate 6 refine cG ?_
  refine⟨?_,?_,?_,?_,?_⟩
  ·omega
  ·rw[aNB (by omega),pE,aNt (by omega)];exact h0
  ·exact akt
  ·omega
  ·rw[aks];exact .inr ⟨by omega,H.length+3,by omega,by simp[GZ],rfl,by rw[<-GZ];simp⟩
end Go.Proofs.YtmkjgfnicfpjpaaGreatDoor
