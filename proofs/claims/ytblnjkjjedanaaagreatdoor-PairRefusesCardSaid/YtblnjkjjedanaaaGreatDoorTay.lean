/- A part of the proof that PairRefuses returns true for every input; no condition of its own. -/
import Derived.Test.YtblnjkjjedanaaaGreatDoorTax
set_option linter.all false
set_option maxHeartbeats 100000000
set_option maxRecDepth 100000
open List renaming length_append->aMk,length_map->aOT,getD_eq_getElem?_getD->aSW,append_assoc->aS1,getElem?_eq_getElem->aMh,take_length->aR7,getElem?_append_left->aOB,getElem?_set_self->aOc,eq_nil_of_length_eq_zero->aVC,drop_zero->aQh,mem_cons->aNn,getElem?_map->aNe,getElem?_eq_some_iff->aLu,cons_append->aP4,getElem?_cons_zero->aP1,append_nil->aRf,mem_append->aNg,take->aTa,nil_append->aP5,mem_map->aNp,length_cons->aMn,map->aXO
open Rat renaming intCast_mul->aVR,divInt_eq_div->aWf,intCast_add->aXL,divInt->aTV
open Nat renaming le_trans->aNR,gcd_dvd_left->aUX,dvd_trans->aXH,gcd->aUZ,gcd_dvd_right->aWd,pow_add->aR3,dvd_lcm_right->aXI,gcd_zero_left->aU7,dvd_lcm_left->aXJ,div_le_self->aXK,mul_le_mul->aSb,eq_zero_or_pos->aXM,lcm_dvd->aXN,reduceLT->aa,reduceEqDiff->ae,reduceAdd->ah,reduceLeDiff->ai,reduceBEq->aj,reduceMul->ak
open Option renaming map_eq_some_iff->aLp,some->aLv,getD_some->aNt
open Int renaming natAbs_mul->aVS,natAbs_natCast->aTX,reduceLE->an,reduceLT->ao,reduceToNat->aq,reduceGT->ar,reduceAdd->aA,reduceBEq->aD,reduceBNe->aE
namespace Go.Proofs.YtblnjkjjedanaaaGreatDoor
open Go Dv Dv.bV
open Go.Proofs.dN
variable{E:Env}[C:Ctx E]
theorem ZE{B:Nat}{H H2:Hp}(h:∀k,k<H.length->H2[k]?=H[k]?)(hl:H.length<=H2.length):nK B H H2:=
 ⟨⟨hl,fun k _ hk=>h k hk⟩,fun k st cs _ e hd=>⟨st,hd,by rw[h k (aLu.1 e).1];exact e⟩⟩
theorem mz.lY{v:AV}{G:List (List Rat)}(h:mz v G):aN v=true/\b7 v=true/\v.cells=[v]:=by rcases h with⟨-,rfl⟩|⟨-,rfl⟩<;>exact⟨rfl,rfl,rfl⟩
theorem IH{E:Env} [C:lS E]{n:Nat}{v rv:AV}{G rays:List (List Rat)}(hv:mz v G)(qP:mz rv rays)(h:rK n G rays):
  ∃c e,aO E 22 [.agg [.int .i64 (n:Int),v,rv]]=some (.tuple [c,.int .i64 e])/\(rays=[]->e=0)/\(aN c=true/\∃a b d,c=.agg [a,b,d]/\b7 a=true/\b7 b=true/\b7 d=true):=by
 obtain⟨o,ho,Ua,hG2,F2,Oo,hGK⟩:=h.Rk;obtain⟨h0,hn⟩:=h.pos;have h5:=aq3 hn;have hlB:lB 11 G.length<=45:=aNR (zU hG2) (by decide);have Si:rays.length<=1:=by rw[ho];cases o<;>simp
 have Wb:mR 18665 rays:=by rw[ho];exact Dn Oo
 obtain⟨l1,Wy,uN⟩:=rR (E:=E) (most:=8) hv h.wid F2.yd (by omega) (by omega) (by omega) (by omega);rw[show((8:Nat):Int)=8 from rfl]at Wy;obtain⟨l2,Wz,vg⟩:=rR (E:=E) (most:=256) qP Ua Wb (by omega) (by omega) (by omega) (by omega);rw[show((256:Nat):Int)=256 from rfl]at Wz;rw[ho]at vg;obtain⟨r1,H1,uK,Es,tV,v1,XU,G1,sj,P1,rfl,r9,td,F1,Zm⟩:=AX (E:=E) (H0:=[.cells .live [.int .i64 (n:Int),v,rv],.cells .live [.int .i64 0,.aH,.aH]]) (k:=18664) (kg:=23) uN vg h.wid h0 hn (by omega) F2 (fun r hr=>(Oo r hr).1) (aNR (aSb h5 (show 2*lB 11 G.length+18664+5<=18759 by omega)) (by decide)) (by omega) (by omega) hGK;rw[show([.cells .live [.int .i64 (n:Int),v,rv],.cells .live [.int .i64 0,.aH,.aH]]:Hp).length=2 from rfl]at Es tV r9 td;have AD:H1[0]?=some (.cells .live [.int .i64 (n:Int),v,rv]):=by rw[Es 0 (by omega)];rfl
 have Sn:H1[1]?=some (.cells .live [.int .i64 0,.aH,.aH]):=by rw[Es 1 (by omega)];rfl
 obtain⟨hG8,TY⟩:=hGK G1 P1 F1 Zm.ech;obtain⟨En,ahE⟩:=Ij TY;obtain⟨o1,ho1,aoX,axm⟩:=Zm.opt;have hcw:∀w,o1=some w->CV 72 (fv w)/\w.length=n:=fun w hw=>⟨(aoX w hw).2.mono (by omega),(aoX w hw).1⟩
 have ahF:mR 73 sj:=by rw[ho1];exact Dn hcw
 have aGQ:sj.length<=1:=Zm.le;obtain⟨q1,ZR,MY,Oz,sG⟩:=r9.r.frz;obtain⟨YC,aii,WD⟩:=qU (E:=E) Oz F1 ahE (by omega) (by omega) (by omega);obtain⟨HA,hmA,Om,hlA,hzA,-⟩:=sM (B:=1) (H:=H1) (bJ YC) (bs:=ZR) (fun b hb=>by have:=sG b hb;omega);obtain⟨q2,CF,R7,OA,tz⟩:=(td.r.mono (show 1<2 by omega) Om).frz;obtain⟨YD,aij,Ox⟩:=qU (E:=E) OA axm ahF (by omega) (by omega) (by omega);obtain⟨HB,hmB,Wj,aw4,hzB,-⟩:=sM (B:=1) (H:=HA) (bJ YD) (bs:=CF) (fun b hb=>by have:=tz b hb;omega);rw[ho1]at Ox;have aw5:lB 23 G1.length<=6885:=WS rfl hG8;obtain⟨r2,H2,xL,qY,wI,v2,rv2,G2,Fk,P2,rfl,hU1,hU2,V1,hO2⟩:=zo (E:=E) (H0:=HB++[.cells .live [.int .i64 (n:Int),v1,XU]]) (k:=72) (kg:=18687) WD Ox F1 h0 hn (by omega) En (fun r hr=>(hcw r hr).1) (aNR (aSb h5 (show 2*lB 23 G1.length+72+5<=13847 by omega)) (by decide)) (by omega) (by omega) (A7 (b:=72) F1 (En.mono (by omega)) hcw hn (fun r h1 h3=>aNR (sP (Nat.le_refl _) (show r<=8 by omega)) (by decide)));have aa3:(HB++[cG.cells iH.live [AV.int IntKind.i64 (n:Int),v1,XU]]).length=H1.length+1:=by rw[aMk,aw4,hlA];rfl
 have hkp:=zR qY;have aeR:nK 1 (HB++[cG.cells iH.live [AV.int IntKind.i64 (n:Int),v1,XU]]) H2:=ZE qY wI;rw[aa3]at qY wI hU1 hU2;have hAB:HB.length=H1.length:=by omega
 have hA0:HA[0]?=some (.cells .live [.int .i64 (n:Int),v,rv]):=by rw[Om.1.2 0 (by omega) (by omega)];exact AD
 have hB0:HB[0]?=some (.cells .live [.int .i64 (n:Int),v,rv]):=by rw[Wj.1.2 0 (by omega) (by omega)];exact hA0
 have VZ:HB[1]?=some (.cells .live [.int .i64 0,.aH,.aH]):=by rw[hzB,hzA];exact Sn
 have h21:H2[1]?=some (.cells .live [.int .i64 0,.aH,.aH]):=by rw[qY 1 (by omega),aOB (by omega)];exact VZ
 have h27:H2[H1.length]?=some (.cells .live [.int .i64 (n:Int),v1,XU]):=by rw[qY _ (by omega),gk hAB];rfl
 obtain⟨e1,e2,RH,hy1,hy2,zK,aa0⟩:=aaG hU1.r hU2.r hv qP;have aa0:=fun k z k' z'=>aa0 [] k z k' z'
 rw[aRf]at aa0;have aFo:G2.length<=8:=(A7 (b:=72) F1 (En.mono (by omega)) hcw hn (kg:=18687) (fun r h1 h3=>aNR (sP (Nat.le_refl _) (show r<=8 by omega)) (by decide)) G2 P2 V1 hO2.ech).1;obtain⟨o2,ho2,-,axn⟩:=hO2.opt;have aGR:Fk.length<=1:=hO2.le;have heq:=Kt (E:=E) (n:=(n:Int)) (BD hv) (BD hy1) (BD qP) (BD hy2) (oX h.wid hn) (oX V1 hn) (by rw[aOT];omega) (by rw[aOT];omega) (oX Ua hn) (oX axn hn) (by rw[aOT];omega) (by rw[aOT];omega);obtain⟨eqb,aog⟩:∃b,b=(decide (G.map (fun q=>q.map bC)=G2.map (fun q=>q.map bC))&&decide (rays.map (fun q=>q.map bC)=Fk.map (fun q=>q.map bC))):=⟨_,rfl⟩;rw[<-aog]at heq;have Oh:rays=[]->eqb=true:=by
  intro Ba;have eo:o=none:=by cases o with|none=>rfl|some x=>rw[Ba]at ho;cases ho
  subst eo;rcases Zm with⟨-,f1,hE1⟩|⟨r,w,er,-⟩
  ·have eo1:o1=none:=by cases o1 with|none=>rfl|some x=>rw[f1]at ho1;cases ho1
   subst eo1;rcases hO2 with⟨-,f2,hE2⟩|⟨r,w,er,-⟩
   ·obtain⟨L,jZ,hs,⟨P,hE⟩,-⟩:=h.ex;obtain⟨-,-,-,-,-,hOG⟩:=rT h.wid F2 hE1;have hG:∀x,eK (SR G.length (rf G)) x↔eK (SR L.length (rf L)) x:=fun y=>(hE.Yb (jn _)).symm
    have hGG:G=G2:=we (jn _) hE (hE2.congr (fun x=>(hOG x).trans (hG x))) h.wid V1;rw[aog,Ba,f2,<-hGG]
    simp
   ·cases er
  ·cases er
 have hR1:Kd H2 2 v1 G1:=((((r9.r.mono (show 1<2 by omega) Om).mono (show 1<2 by omega) Wj).mono (show 1<2 by omega) (nK.app _)).mono (show 1<2 by omega) aeR);have hR2:Kd H2 2 XU sj:=((((td.r.mono (show 1<2 by omega) Om).mono (show 1<2 by omega) Wj).mono (show 1<2 by omega) (nK.app _)).mono (show 1<2 by omega) aeR);have s21:=fun xs o=>kG (n:=3) (xs:=xs) (o:=o) h21
 have mv:=hv.pure;have mrv:=qP.pure;have v0:b7 v=true/\v.cells=[v]:=by rcases hv with⟨-,rfl⟩|⟨-,rfl⟩<;>exact⟨rfl,rfl⟩
 have rv0:b7 rv=true/\rv.cells=[rv]:=by rcases qP with⟨-,rfl⟩|⟨-,rfl⟩<;>exact⟨rfl,rfl⟩
 have m1:=r9.one;have m2:=td.one;have t1:aN YC=true/\b7 YC=true/\YC.cells=[YC]:=by rcases WD with⟨-,rfl⟩|⟨-,vs,rfl,-⟩<;>exact⟨rfl,rfl,rfl⟩
 have t2:aN YD=true/\b7 YD=true/\YD.cells=[YD]:=by rcases Ox with⟨-,rfl⟩|⟨-,vs,rfl,-⟩<;>exact⟨rfl,rfl,rfl⟩
 have t3:aN l1=true/\b7 l1=true/\l1.cells=[l1]:=by rcases uN with⟨-,rfl⟩|⟨-,vs,rfl,-⟩<;>exact⟨rfl,rfl,rfl⟩
 have t4:aN l2=true/\b7 l2=true/\l2.cells=[l2]:=by rcases vg with⟨-,rfl⟩|⟨-,vs,rfl,-⟩<;>exact⟨rfl,rfl,rfl⟩
 have u1:=hU1.one;have u2:=hU2.one;have a0:=fun m l o=>rN (T:=H1) (n:=m) (l:=l) (o:=o) (show 0<H1.length by omega)
 have a1:=fun m o=>jL (n:=m) (o:=o) AD (by decide)
 have c0:=fun l o=>kZ (T:=H1) (l:=l) (o:=o) (show 0<H1.length by omega)
 have c1:=fun o=>jM (o:=o) AD (by decide)
 have a7:=fun m o=>jL (n:=m) (o:=o) h27 (by decide)
 have d1:decide ((n:Int)<1)=false:=cH (by omega);have d2:decide ((n:Int)>8)=false:=cH (by omega);have rfb:∀b,bJ (.bool b)=true:=fun b=>rfl
 suffices hh:∃u,aO E 22 [.agg [.int .i64 (n:Int),v,rv]]=some u/\∃c e,u=.tuple [c,.int .i64 e]/\(rays=[]->e=0)/\(aN c=true/\∃a b d,c=.agg [a,b,d]/\b7 a=true/\b7 b=true/\b7 d=true)by
  obtain⟨u,h1,c,e,rfl,h2⟩:=hh;exact⟨c,e,h1,h2⟩
 refine mO aaA ?_;intro ts hl g0;unfold c22;simp only[↓aQ,aR,↓aT,aK,dt,↓reduceIte,aa,ah,ae,Tryz.f22,aE,hl,g0,d1,d2,Wy,Wz,uK,mv,mrv,m1,m2,a0,a1,c0,c1,MY,R7,aii,aij,hmA,hmB,hlA,xL,hkp,aa0,heq,aMk];obtain⟨H5,oN⟩:∃H5,H5=H2.set 1 (.cells .live [.int .i64 (n:Int),v1,XU]):=⟨_,rfl⟩;have p5:dP H2 1 (.cells .live [.int .i64 (n:Int),v1,XU])=H5:=by rw[oN];exact eY (by omega)
 have h51:H5[1]?=some (.cells .live [.int .i64 (n:Int),v1,XU]):=by rw[oN,aOc (by omega)]
 have a5:=fun m o=>jL (n:=m) (o:=o) h51 (by decide)
 obtain⟨H6,hH6⟩:∃H6,H6=H2.set 1 (.cells .live [.int .i64 0,.aH,.aH]):=⟨_,rfl⟩;have p6:dP H2 1 (.cells .live [.int .i64 0,.aH,.aH])=H6:=by rw[hH6];exact eY (by omega)
 have h61:H6[1]?=some (.cells .live [.int .i64 0,.aH,.aH]):=by rw[hH6,aOc (by omega)]
 have a6:=fun m o=>jL (n:=m) (o:=o) h61 (by decide)
 cases eqb with
 |true=>
  obtain⟨w1,w2,bs4,vM,wN,-,aa1⟩:=Qz (H:=H5) (hR1.mono (show 1<2 by omega) (by rw[oN];exact nK.set _)) (hR2.mono (show 1<2 by omega) (by rw[oN];exact nK.set _));have aa1:=fun k z k' z'=>aa1 [] k z k' z'
  rw[aRf]at aa1;simp only[↓aQ,aR,aK,↓reduceIte,aa,ah,ae,hl,rfb,a7,s21,p5,a5,m1,m2,aa1];refine⟨_,_,rfl,fun _=>rfl,?_,_,_,_,rfl,rfl,(vM.lY).2.1,(wN.lY).2.1⟩;show bE [_,_,_]=true
  simp only[bE,aN,(vM.lY).1,(wN.lY).1,Bool.and_self]
 |false=>
  simp only[↓aQ,aR,aK,dt,↓reduceIte,aa,ah,ae,hl,rfb,s21,p6,a6];exact⟨_,_,rfl,fun hr=>absurd (Oh hr) (by decide),rfl,_,_,_,rfl,rfl,rfl,rfl⟩
theorem BP{E:Env} [C:lS E]{n:Nat}{v rv:AV}{G rays:List (List Rat)}(hv:mz v G)(qP:mz rv rays)(h:rK n G rays):∃e,aO E 8 [.agg [.int .i64 (n:Int),v,rv]]=some (.int .i64 e)/\(rays=[]->e=0):=by
 suffices hh:∃u,aO E 8 [.agg [.int .i64 (n:Int),v,rv]]=some u/\∃e,u=(.int .i64 e)/\(rays=[]->e=0)by
  obtain⟨u,h1,e,rfl,h2⟩:=hh;exact⟨e,h1,h2⟩
 obtain⟨c,e,hc,he0,hp,a,b,d,rfl,o1,o2,o3⟩:=IH (E:=E) hv qP h;have mv:=hv.pure;have mrv:=qP.pure;have v0:b7 v=true/\v.cells=[v]:=by rcases hv with⟨-,rfl⟩|⟨-,rfl⟩<;>exact⟨rfl,rfl⟩
 have rv0:b7 rv=true/\rv.cells=[rv]:=by rcases qP with⟨-,rfl⟩|⟨-,rfl⟩<;>exact⟨rfl,rfl⟩
 refine mO fn8 ?_;intro ts hl g0;unfold c8;simp only[↓aQ,aR,↓aT,aK,↓reduceIte,aa,ah,ae,Tryz.f8,hl,g0,hc,mv,mrv,o1,o2,o3];exact⟨_,rfl,he0⟩
def eI(ts:List Tw):List (List Rat):=ts.map Tw.qs
theorem ve.get:∀{cs:List AV} {ts:List Tw},ve cs ts->∀{i:Nat},i<ts.length->∃c,(cs.drop (i*24)).take 24=c/\AL (.agg c) (ts.getD i ⟨v0,v0⟩)
 |_,_,.nil,i,hi=>absurd hi (by simp)
 |_,_,.cons (c:=c) h hl h',0,_=>⟨c,by rw[Nat.zero_mul,aQh,<-hl,List.take_left],h⟩
 |_,_,.cons (c:=c) h hl h',i+1,hi=>by
  obtain⟨c2,e,h2⟩:=h'.get (i:=i) (by simpa using hi);refine⟨c2,?_,h2⟩;rw[show(i+1)*24=c.length+i*24 by rw[hl];omega,<-List.drop_drop,List.drop_left];exact e
theorem CD.len{v:AV}{ts:List Tw}(h:CD v ts):jP v=some (ts.length:Int):=by
 rcases h with⟨rfl,rfl⟩|⟨-,cs,rfl,-⟩<;>rfl
theorem CD.lY{v:AV}{ts:List Tw}(h:CD v ts):aN v=true/\b7 v=true/\v.cells=[v]:=by
 rcases h with⟨-,rfl⟩|⟨-,cs,rfl,-⟩<;>exact⟨rfl,rfl,rfl⟩
theorem Xu{cs:List AV}{o:Nat}(ho:o+24<=cs.length):iR true 24 cs o=some (.agg ((cs.drop o).take 24)):=by simp[iR,ho]
def TT(k:Nat)(ts:List Tw):Prop:=∀t∈ts,BT k t
theorem TT.get{k:Nat}{ts:List Tw}(h:TT k ts){i:Nat}(hi:i<ts.length):BT k (ts.getD i ⟨v0,v0⟩):=by rw[aSW,aMh hi,aNt];exact h _ (List.getElem_mem hi)
theorem rz{ts:List Tw}:iX (eI ts) 6:=by intro i hi;unfold row eI at*;rw[aOT]at hi;rw[aSW,aNe,aMh hi];rfl
def Dw(len s:Nat)(Q:Nat->List AV->Prop)(H:Hp)(v:AV)(i:Nat):Prop:=(i=0/\v=.aH)∨(0<i/\∃b hs,v=.aI b 0 i 1 i/\b<H.length/\H[b]?=some (.cells .live hs)/\hs.length=i/\∀j,j<i->∃c cs,hs.getD j aX=.aI c 0 len s len/\c≠b/\c<H.length/\H[c]?=some (.cells .live cs)/\Q j cs)
theorem Dw.sl{len s:Nat}{Q:Nat->List AV->Prop}{H:Hp}{v:AV}{i:Nat}(h:Dw len s Q H v i):∃hs,u7 1 0 v H i hs/\hs.length=i:=by
 rcases h with⟨rfl,rfl⟩|⟨h0,b,hs,e,h1,h2,h3,-⟩
 ·exact⟨[],.inl ⟨rfl,rfl,rfl⟩,rfl⟩
 ·exact⟨hs,.inr ⟨h0,b,Nat.zero_le _,h1,e,h2⟩,h3⟩
theorem Dw.step{len s:Nat}{Q:Nat->List AV->Prop}{H H2:Hp}{i k r:Nat}{v:AV}{hs cs:List AV}(h:Dw len s Q H v i)(lJ:u7 1 0 v H i hs)(hi:hs.length=i)(hr:H.length<=r)(hk:r<k)(qY:k<H2.length)(h1:H2[k]?=some (.cells .live (hs++[.aI r 0 len s len])))(h2:H2[r]?=some (.cells .live cs))(hc:Q i cs)(hp:∀q,q<H.length->(∀m,v≠ .aI q 0 m 1 m)->H2[q]?=H[q]?):Dw len s Q H2 (.aI k 0 (i+1) 1 (i+1)) (i+1):=by
 refine .inr ⟨by omega,k,_,rfl,qY,h1,by rw[aMk,hi];rfl,fun j hj=>?_⟩;by_cases e:j=i
 ·subst e;exact⟨r,cs,jB hi.symm,by omega,by omega,h2,hc⟩
 ·rcases h with⟨h0,-⟩|⟨h0,b,vh,e1,tz,h3,h4,h5⟩
  ·omega
  ·have hss:hs=vh:=by
    rcases lJ with⟨h8,-,-⟩|⟨-,b',-,-,e3,h9⟩
    ·omega
    ·rw[e1]at e3;simp only[AV.aI.injEq,and_true]at e3;obtain rfl:=e3;rw[h3]at h9;simpa using h9.symm
   subst hss;obtain⟨c,tL,f1,f2,f4,f5,f6⟩:=h5 j (by omega);refine⟨c,tL,by rw[jC (by omega)];exact f1,by omega,by omega,?_,f6⟩;rw[hp c f4]
   ·exact f5
   ·intro m e3;rw[e1]at e3;simp only[AV.aI.injEq]at e3;exact f2 e3.1.symm
theorem Dw.frz{len s:Nat}{Q:Nat->List AV->Prop}{H:Hp}{v:AV}{i:Nat}(h:Dw len s Q H v i)(hq:∀j cs,Q j cs->cs.length=len*s/\∀v∈cs,Flat v):∃o bs,Dv.fz H 40 v=some (o,bs)/\((i=0/\o=.aH)∨(0<i/\∃vs,o=.aJ vs i/\vs.length=i/\∀j,j<i->∃cs,vs.getD j aX=.aJ cs len/\Q j cs)):=by
 rcases h with⟨h0,e⟩|⟨h0,b,hs,e1,h2,h3,h4,h5⟩
 ·subst e;exact⟨_,_,rfl,.inl ⟨h0,rfl⟩⟩
 ·have key:∀l:List AV,(∀x∈l,∃c cs,x=.aI c 0 len s len/\H[c]?=some (.cells .live cs)/\cs.length=len*s/\∀u∈cs,Flat u)->∃r,dh (Dv.fz H 39) l=some r/\r.length=l.length/\∀j,j<l.length->∃c cs,l.getD j aX=.aI c 0 len s len/\H[c]?=some (.cells .live cs)/\(r.map (·.1)).getD j aX=.aJ cs len:=by
   intro l;induction l with
   |nil=>intro _;exact⟨[],rfl,rfl,by simp⟩
   |cons x l ih=>
    intro hx;obtain⟨r,wJ,yp,Bb⟩:=ih fun y hy=>hx y (by simp[hy])
    obtain⟨c,cs,e,hc,iE,hf⟩:=hx x (by simp);have h6:=kD (n:=38) (off:=0) (len:=len) (esz:=s) (k:=len) hc (by decide) (by omega) (by rw[aQh,<-iE,aR7];exact fj hf);rw[gn,dH]at h6;subst e;refine⟨(.aJ cs len,[c])::r,?_,by simp[yp],?_⟩
    ·unfold dh;rw[h6,wJ]
    ·intro j hj;cases j with
     |zero=>exact⟨c,cs,rfl,hc,rfl⟩
     |succ j=>
      obtain⟨c',tL,a1,a2,a3⟩:=Bb j (by simpa using hj);exact⟨c',tL,by simpa using a1,a2,by simpa using a3⟩
  obtain⟨r,wJ,yp,Bb⟩:=key hs (by
   intro x hx;obtain⟨j,hj,e⟩:=List.getElem_of_mem hx;obtain⟨c,cs,a1,-,-,a4,a5⟩:=h5 j (by omega);rw[aSW,aMh hj,aNt,e]at a1;obtain⟨q1,q2⟩:=hq j cs a5;exact⟨c,cs,a1,a4,q1,q2⟩)
  have h6:=kD (n:=39) (off:=0) (len:=i) (esz:=1) (k:=i) h3 (by decide) (by omega) (by rw[aQh,Nat.mul_one,<-h4,aR7];exact wJ);subst e1;refine⟨_,_,h6,.inr ⟨h0,_,rfl,by rw[aOT,yp,h4],fun j hj=>?_⟩⟩;obtain⟨c,cs,a1,a2,a3⟩:=Bb j (by omega);obtain⟨c',tL,b1,-,-,b4,b5⟩:=h5 j hj;rw[a1]at b1;simp only[AV.aI.injEq,and_true]at b1;obtain rfl:=b1;rw[a2]at b4;simp only[aLv.injEq,cG.cells.injEq,true_and]at b4;subst b4;exact⟨cs,a3,b5⟩
theorem wR{f:AV->Option (AV×List Nat)}:∀{l:List AV} {r:List (AV×List Nat)},dh f l=some r->∀b∈r.flatMap (·.2),∃x y,f x=some y/\b∈y.2
 |[],r,h,b,hb=>by
  unfold dh at h;cases h;exact absurd hb (by simp)
 |x::l,r,h,b,hb=>by
  unfold dh at h;cases hx:f x with
  |none=>rw[hx]at h;cases h
  |some y=>
   rw[hx]at h;cases hl:dh f l with
   |none=>rw[hl]at h;cases h
   |some rs=>
    rw[hl]at h;cases h;rw[List.flatMap_cons,aNg]at hb;rcases hb with hb|hb
    ·exact⟨x,y,hx,hb⟩
    ·exact wR hl b hb
theorem tQ{H:Hp}:∀{n:Nat} {x r:AV} {bs:List Nat},Dv.fz H n x=some (r,bs)->∀b∈bs,b<H.length
 |0,_,_,_,h=>by cases h
 |n+1,x,r,bs,h=>by
  have L:∀(cs c:List AV) (bs:List Nat),(dh (Dv.fz H n) cs).map (fun r=>(r.map (·.1),r.flatMap (·.2)))=some (c,bs)->∀b∈bs,b<H.length:=by intro cs c bs h b hb;rw[aLp]at h;obtain⟨rs,h1,h2⟩:=h;cases h2;obtain⟨x,y,h3,h4⟩:=wR h1 b hb;exact tQ (n:=n) (r:=y.1) (bs:=y.2) h3 b h4
  have hx:∀{b:Nat} {k:cG},H[b]?=some k->b<H.length:=fun e=>(aLu.1 e).1
  unfold Dv.fz at h;cases x<;>simp only at h<;>first|(cases h;done)|(cases h;intro b hb;exact absurd hb (by simp);done)|skip
  case b6 b off=>
   split at h
   ·rename_i st cs e;split at h
    ·cases h
    ·rw[aLp]at h;obtain⟨p,h1,h2⟩:=h;cases h2;intro b' ux;rcases aNn.1 ux with rfl|ux
     ·exact hx e
     ·exact L _ _ _ h1 b' ux
   ·cases h
  case aI b off len esz kc=>
   split at h
   ·rename_i st cs e;split at h
    ·cases h
    ·rw[aLp]at h;obtain⟨p,h1,h2⟩:=h;cases h2;intro b' ux;rcases aNn.1 ux with rfl|ux
     ·exact hx e
     ·exact L _ _ _ h1 b' ux
   ·cases h
  case iL b=>
   split at h
   ·rename_i st ks vs e;split at h
    ·cases h
    ·split at h
     ·rename_i k b1 v b2 e1 e2;cases h;intro b' ux;rcases aNn.1 ux with rfl|ux
      ·exact hx e
      ·rcases aNg.1 ux with ux|ux
       ·exact L _ _ _ e1 b' ux
       ·exact L _ _ _ e2 b' ux
     ·cases h
   ·cases h
  case agg cs=>
   rw[aLp]at h;obtain⟨p,h1,h2⟩:=h;cases h2;exact L _ _ _ h1
  case tuple cs=>
   rw[aLp]at h;obtain⟨p,h1,h2⟩:=h;cases h2;exact L _ _ _ h1
  case iface t v=>
   rw[aLp]at h;obtain⟨p,h1,h2⟩:=h;cases h2;exact tQ (n:=n) (r:=p.1) (bs:=p.2) h1
  case func f a c=>
   split at h
   ·rename_i a' b1 c' b2 e1 e2;cases h;intro b' ux;rcases aNg.1 ux with ux|ux
    ·exact L _ _ _ e1 b' ux
    ·exact L _ _ _ e2 b' ux
   ·cases h
theorem PB{E:Env} [C:lS E]{v:AV}{tws:List Tw}(hT:CD v tws){q b:Nat}(bT:TT q tws)(hq:q<=1000000000)(hb:CR b (eI tws))(zK:b<=300)(Sa:tws.length<=6):
  ∃o G P,aO E 44 [v]=some o/\mz o G/\iX G 6/\kU 6 G.length (fun i=>dW G i) P (eK (SR tws.length (rf (eI tws)))):=by
 have Db:(eI tws).length=tws.length:=by unfold eI;rw[aOT]
 have hm6:=Sa;have yf:=sz6 (b:=b) zK (by rw[Db];exact Sa) rz hb
 suffices hh:∃u,aO E 44 [v]=some u/\∃G P,mz u G/\iX G 6/\kU 6 G.length (fun i=>dW G i) P (eK (SR tws.length (rf (eI tws))))by
  obtain⟨u,h1,G,P,h2⟩:=hh;exact⟨u,G,P,h1,h2⟩
 have zN:=hT.len;have vm:=hT.lY;refine mO avi ?_;intro ts hl g0;unfold c44;simp only[↓aQ,aR,aK,aa,ae,Tryz.f44,hl,g0,zN];refine fh (fun k_ ts H=>∃i w HC,k_=tws.length-i/\ts.length=29/\gt ts 3=w/\gt ts 9=v/\gt ts 10=.int .i64 (tws.length:Int)/\gt ts 11=.int .i64 (i:Int)/\H=HC/\(i<=tws.length)/\(Dw 6 1 (fun j cs=>cs=(row (eI tws) j).map (fun q=>AV.str (bC q))/\j<tws.length) HC w i)) (tws.length) ?_ ?_
 rotate_left
 ·refine⟨0,.aH,[],(by first|omega|rfl|(simp;done)),(by simp only[cK,hl]),?_⟩;simp only[cM,hl,aa,ae]
  iterate 5 refine⟨by first|trivial|rfl|(congr 1;omega)|(simp;done)|(simp;omega),?_⟩
  refine⟨?_,?_⟩
  ·omega
  ·exact .inl ⟨rfl,rfl⟩
 clear hl g0 ts;rintro k_ ts H ⟨i,w,HC,rfl,hl,g3,g9,g10,g11,rfl,hi,hsa⟩;refine VS ?_;by_cases hd:i<tws.length
 ·have dc:decide ((i:Int)<(tws.length:Int))=true:=cF (by omega);have oF:((i:Int)<(tws.length:Int))=True:=eq_true (by omega);have w1:aV .i64 ((i:Int)+1)=((i+1:Nat):Int):=by rw[wrap_i64 (by omega) (by omega)];omega
  obtain⟨-,vs,rfl,hC⟩:=hT.resolve_left (fun h=>by rw[h.1]at hd;exact absurd hd (by simp));have p1:=Xu (cs:=vs) (o:=i*24) (by have:=hC.len;omega);obtain⟨c,e1,ic⟩:=hC.get hd;rw[e1]at p1;have vI:=xi (E:=E) ic (bT.get hd) (by omega);have Uc:row (eI tws) i=(tws.getD i ⟨v0,v0⟩).qs:=by unfold row eI;rw[aSW,aNe,aSW,aMh hd];rfl
  obtain⟨ct,KU⟩:∃ct,ct=(tws.getD i ⟨v0,v0⟩).qs.map (fun q=>AV.str (bC q)):=⟨_,rfl⟩;rw[<-KU]at vI;have R5:ct.length=6:=by rw[KU,aOT];rfl
  have Wc:ct.all b7=true:=by rw[List.all_eq_true];intro x hx;rw[KU,aNp]at hx;obtain⟨q,-,rfl⟩:=hx;rfl
  have iE:=PS ic;have Sl:aTa 24 c=c:=by rw[<-iE,aR7]
  have apw:aTa 6 ct=ct:=by rw[<-R5,aR7]
  have C7:=YH ic;have B6:=At ic;obtain⟨vh,lJ,R8⟩:=hsa.sl;have aif:AE E (H++[cG.cells iH.live c,cG.cells iH.live ct]) 78 (.b6 (H.length+1) 0) none none=some (.aI (H.length+1) 0 6 1 6):=Ao Uv (st:=.live) (by rw[lL rfl];rfl) (by decide) (by omega) (by decide) (by decide);have pS:∀aM,aW E aM 24 1 [(0,.aI (H.length+1) 0 6 1 6)]=some (.aI aM 0 1 1 1,[(aM,.cells .live [.aI (H.length+1) 0 6 1 6])]):=fun aM=>gE Ak rfl (by decide) (by decide) rfl
  obtain⟨bM,H2,gT,uJ,t1,t2,t3⟩:=jR (E:=E) (H:=H++[.cells .live c,.cells .live ct]) (x:=[.aI (H.length+1) 0 6 1 6]) Ak (by decide) (xu (l:=[.cells .live c,.cells .live ct]) lJ) (by omega) rfl rfl (by unfold gq;omega) (by omega);have Wm:(H++[cG.cells iH.live c,cG.cells iH.live ct]).length=H.length+2:=by rw[aMk];rfl
  rw[Wm]at gT t1 t2 t3;simp only[aS1,aP4,aP5,aMk,aMn,List.length_nil,Nat.zero_add,ah]at gT uJ;simp only[↓aQ,aR,↓aT,aK,dt,↓reduceIte,aa,ah,ae,hl,g3,g9,g10,g11,oF,w1,p1,vI,iE,C7,B6,Sl,R5,Wc,aif,pS,gT,uJ,Nat.add_assoc,aS1,aMk];refine dO ?_;refine⟨_,?_,i+1,(.aI (H.length+3) 0 (i+1) 1 (i+1)),H2,rfl,(by simp only[cK,hl]),?_⟩
  ·first|omega|(simp;omega)
  simp only[cM,hl,aa,ae,g9,g10]
  iterate 5 refine⟨by first|trivial|rfl|(congr 1;omega)|(simp;done)|(simp;omega),?_⟩
  refine⟨?_,?_⟩
  ·omega
  ·refine hsa.step lJ R8 (r:=H.length+1) (cs:=ct) (by omega) (by omega) (by omega) t1 ?_ ⟨by rw[Uc];exact KU,hd⟩ (fun q hq Ou=>?_)
   ·rw[t3 _ (by omega) ?_,lL rfl]
    ·rfl
    ·intro m e;rcases lJ with⟨-,-,e2⟩|⟨-,b,-,hb,e2,-⟩
     ·rw[e2]at e;simp at e
     ·rw[e2]at e;simp only[AV.aI.injEq]at e;omega
   ·rw[t3 q (by omega) Ou,aOB hq]
 ·have dc:decide ((i:Int)<(tws.length:Int))=false:=cH (by omega);obtain rfl:i=tws.length:=by omega
  obtain⟨o,bs,hfo,ho⟩:=hsa.frz (by
   rintro j cs ⟨rfl,hj⟩;refine⟨by rw[aOT,rz j (by omega)],fun x hx=>?_⟩;rw[aNp]at hx;obtain⟨q,-,rfl⟩:=hx;exact fun _ _=>rfl)
  have hot:mz o (eI tws):=by
   rcases ho with⟨h1,h2⟩|⟨h1,vs,h2,h3,h4⟩
   ·exact .inl ⟨aVC (by omega),h2⟩
   ·refine .inr ⟨fun e=>by rw[e]at Db;simp at Db;omega,?_⟩;rw[h2,Db];congr 1;refine rU (d:=aX) (by rw[aOT];omega) (fun j hj=>?_);obtain⟨cs,f1,f2,f3⟩:=h4 j (by omega);rw[f1,sX (by omega),f2];unfold dS;rw[rz j (by omega)]
  have hF:Uk H w (eI tws) bs:=by
   rcases hsa with⟨h1,h2⟩|⟨h1,b,hs,h2,h3,h4,h5,h6⟩
   ·subst h2;simp only[Dv.fz]at hfo;cases hfo;exact .inl ⟨aVC (by omega),rfl,rfl⟩
   ·refine .inr ⟨by rw[h2];rfl,o,hfo,hot,fun x hx=>?_⟩;exact tQ hfo x hx
  obtain⟨r,H2,hg,-,wI,v2,rv2,G,rays,rfl,r9,td,yU,⟨P,hE⟩,Ow⟩:=pt (E:=E) (n:=6) hF (rv:=.aH) (jZ:=none) (.inl ⟨rfl,rfl,rfl⟩) yf;obtain⟨o2,CF,R7,ho2,-,-⟩:=r9.fz 37;have ahQ:oG (aN v2) (H2++[.cells .live [.int .i64 6,v2,rv2]]) [v2]=some ([o2],CF):=by
   rcases r9.r.pure with⟨e1,rfl,rfl⟩|e1
   ·cases R7;rfl
   ·exact P7 (lU R7 (tQ R7) _) e1
  have m1:=r9.one;have m2:=td.one;rw[show((6:Nat):Int)=6 from rfl]at hg;simp only[↓aQ,aR,↓aT,aK,dt,↓reduceIte,aa,ah,ae,hl,g3,g10,g11,dc,hg,m1,m2,ahQ];exact⟨G,P,ho2,yU,by rw[<-Db];exact hE⟩
theorem LR{q p:Rat}(h:bC q=bC p):q=p:=by rw[<-om (q:=q),<-om (q:=p),h]
theorem Tv{G K:List (List Rat)}(h:(G.map fun q=>q.map bC)=K.map fun q=>q.map bC):G=K:=by
 have hi:∀{a b:List Rat},a.map bC=b.map bC->a=b:=by
  intro a b e
  have:=congrArg (aXO gY) e
  rwa[Jx,Jx]at this
 have:=congrArg (aXO (aXO gY)) h
 rw[List.map_map,List.map_map]at this;have e:(aXO gY∘fun q:List Rat=>q.map bC)=id:=by funext q;exact Jx
 rw[e,List.map_id,List.map_id]at this;exact this
theorem PD{E:Env} [C:lS E]{jv v o:AV}{tws:List Tw}{G:List (List Rat)}(hjp:aN jv=true)(hjc:∃cs,jv=.agg cs/\cs.length=10/\cs.all b7=true)(hv:aO E 40 [jv]=some v)(hT:CD v tws){q b:Nat}(bT:TT q tws)(hq:q<=1000000000)(hb:CR b (eI tws))(zK:b<=300)(Sa:tws.length<=6)(ho:mz o G)(hw:iX G 6)(yI:G.length<=6):
  ∃K P,aO E 29 [jv,o]=some (.bool (decide (K=G)))/\iX K 6/\kU 6 K.length (fun i=>dW K i) P (eK (SR tws.length (rf (eI tws)))):=by
 obtain⟨o2,K,P,yK,ho2,CL,hE⟩:=PB (E:=E) hT bT hq hb zK Sa;refine⟨K,P,?_,CL,hE⟩;have hKl:K.length<=6:=by
  rcases aXM K.length with h|h
  ·omega
  ·have:∀i,i<K.length->i<=P i:=by
    intro i;induction i with
    |zero=>intro _;omega
    |succ i ih=>
     intro hi;have h1:=ih (by omega);have h2:=hE.mono i (i+1) (by omega) hi;omega
   have h1:=this (K.length-1) (by omega);have h2:=hE.lt (K.length-1) (by omega);omega
 have heq:=BY (E:=E) (fn:=61) (cn C.toCtx (by kernel_rfl)) (fun s t hs ht=>Cs (E:=E) hs ht) (BD ho2) (BD ho) (oX CL (by omega)) (oX hw (by omega)) (by rw[aOT];omega) (by rw[aOT];omega);have R6:decide ((K.map fun q=>q.map bC)=G.map fun q=>q.map bC)=decide (K=G):=by
  by_cases h:K=G
  ·rw[cF h,cF (by rw[h])]
  ·rw[cH h,cH (fun e=>h (Tv e))]
 rw[R6]at heq;refine ep ?_;have m1:=ho.lY;have m2:=ho2.lY;have m3:=hT.lY;obtain⟨cs,rfl,iE,C7⟩:=hjc;have Oi:(cs.length==10)=true:=by rw[iE];rfl
 have h10:(10<=cs.length)=True:=eq_true (by omega);have Sl:aTa 10 cs=cs:=by rw[<-iE,aR7]
 have B6:bE cs=true:=hjp;refine tS au9 ?_;intro ts hl g0 g1;unfold c29;simp only[↓aQ,aR,↓aT,aK,↓reduceIte,aa,ae,Tryz.f29,hl,g0,g1,hv,yK,heq,m1,m2,m3,iE,Sl,B6]
end Go.Proofs.YtblnjkjjedanaaaGreatDoor
namespace Go.Proofs.YtblnjkjjedanaaaGreatDoor
open Go Dv Dv.bV
variable{E:Env}[C:Ctx E]
theorem o9{a:V3}(h:a≠v0):qV a a≠0:=by
 intro e;apply h;have h1:∀q:Rat,0<=q*q:=fun q=>by
  rcases Rat.le_total (a:=0) (b:=q)with h|h
  ·exact Rat.mul_nonneg h h
  ·have:=Rat.mul_nonneg (a:= -q) (b:= -q) (by grind) (by grind)
   grind
 have hz:∀q:Rat,q*q=0->q=0:=fun q hq=>by
  rcases Rat.mul_eq_zero.1 hq with h|h<;>exact h
 unfold qV at e;obtain⟨x,y,z⟩:=a;have hx:=h1 x;have hy:=h1 y;have hz':=h1 z;simp only at e;have ex:x*x=0:=by grind
 have ey:y*y=0:=by grind
 have ez:z*z=0:=by grind
 rw[hz x ex,hz y ey,hz z ez];rfl
theorem Hk{k:Nat}{t:Tw}(bt:BT k t)(dM:qV t.a t.a≠0):BV (10*k+6) (j8 t)/\Bq (12*k+9) (lM t):=by have bo:Bq 1 ((1:Int):Rat):=⟨by decide,by decide⟩;have bq:=bo.div (tM bt.1 bt.1) dM;have bc:=jb bt.1 bt.2;exact⟨(BV.scale bq bc).mono (by omega),((tM bt.1 bt.2).mul bq).mono (by omega)⟩
def rO(t:Tw)(n:Int):AV:=if t.a=v0 then cw 2 n false (bC (dX t.l).x) (bC (dX t.l).y) (bC (dX t.l).z) [] [] [] []
 else if lM t=0 then cw 1 n false (bC (dX t.a).x) (bC (dX t.a).y) (bC (dX t.a).z) (bC (j8 t).x) (bC (j8 t).y) (bC (j8 t).z) []
 else cw 3 n false (bC (dX t.a).x) (bC (dX t.a).y) (bC (dX t.a).z) (bC (j8 t).x) (bC (j8 t).y) (bC (j8 t).z) (bC (lM t))
theorem No{c:List AV}{t:Tw}(h:AL (.agg c) t){k:Nat}(bt:BT k t)(hk:k<=10000000)(dM:¬(t.a=v0/\t.l=v0)):aO E 24 [.aJ c 1]=some (rO t 0):=by
 refine ep ?_;obtain⟨Kh,Kf,Ki,Kg,Nt,Np,Nu,Nq,Nv,Nr,Nw,Ns,Ko,Kl,Kp,Km,Kq,Kn,UK,UH,UL,UI,UM,UJ,e,ha,hb⟩:=id h;simp only[AV.agg.injEq]at e;subst e;have A:=dQ ha;have B:=dQ hb;have hz:=iP (E:=E) ha bt.1 (by omega);unfold rO;refine mO au6 ?_;intro ts hl g0;unfold c24;by_cases h0:t.a=v0
 ·rw[cF h0]at hz;rw[if_pos h0];obtain⟨x,hx,ix⟩:=Bl (E:=E) hb bt.2 (by omega) (fun e=>dM ⟨h0,e⟩);have bx:=Bk bt.2 (fun e=>dM ⟨h0,e⟩);have hp:=mV (E:=E) ix bx (by omega);have px:=qe ix;simp only[↓aQ,aR,↓aT,aK,↓reduceIte,aa,ah,ak,ae,an,ao,aq,Tryz.f24,ai,hl,g0,A,B,hz,hx,hp,px];rfl
 ·rw[cH h0]at hz;rw[if_neg h0];obtain⟨x,hx,ix⟩:=Bl (E:=E) ha bt.1 (by omega) h0;have bx:=Bk bt.1 h0;have hpx:=mV (E:=E) ix bx (by omega);have px:=qe ix;obtain⟨p,q,hn,ip,iq⟩:=Ab (E:=E) h bt (by omega) (o9 h0);obtain⟨bp,bq⟩:=Hk bt (o9 h0);have Sg:=mV (E:=E) ip bp (by omega);have sq:=jh (E:=E) iq;have zq:=An (lM t);have nq:=iQ (E:=E) iq bq (by omega);obtain⟨Q9,Q7,Ra,Q8,pn2,pm2,pn3,pm3,pn4,pm4,pn5,pm5,rfl,-,-,-,P,O⟩:=cD ip;obtain⟨FJ,FH,FK,FI,_,_,rfl,-,-,-,-⟩:=bR iq;have Q:=aU _ iq;by_cases hh:lM t=0
  ·rw[if_pos hh];rw[cF hh]at zq;simp only[↓aQ,aR,↓aT,aK,↓reduceIte,aa,ah,ak,ae,an,ao,aq,Tryz.f24,ai,aj,aj,hl,g0,A,B,hz,hx,hpx,px,hn,Sg,sq,zq,P,O,Q,wZ];rfl
  ·rw[if_neg hh];rw[cH hh]at zq;simp only[↓aQ,aR,↓aT,aK,↓reduceIte,aa,ah,ak,ae,an,ao,aq,Tryz.f24,ai,aj,aj,hl,g0,A,B,hz,hx,hpx,px,hn,Sg,sq,zq,nq,P,O,Q,wZ];rfl
def NS(t:Tw)(n:Int):AV:=cw 4 n false (bC (dX t.a).x) (bC (dX t.a).y) (bC (dX t.a).z) (bC (j8 t).x) (bC (j8 t).y) (bC (j8 t).z) []
theorem adm{c cs:List AV}{t:Tw}(h:AL (.agg c) t):(c++cs).take 24=c:=by rw[<-PS h,List.take_left]
theorem FY{c c2:List AV}{t:Tw}(h:AL (.agg c) t)(h2:c2.length=24){k:Nat}(bt:BT k t)(hk:k<=10000000)(h0:t.a≠v0):aO E 25 [.aJ (c++c2) 2]=some (NS t 0):=by refine ep ?_;have aGW:=adm (cs:=c2) h;obtain⟨Kh,Kf,Ki,Kg,Nt,Np,Nu,Nq,Nv,Nr,Nw,Ns,Ko,Kl,Kp,Km,Kq,Kn,UK,UH,UL,UI,UM,UJ,e,ha,hb⟩:=id h;simp only[AV.agg.injEq]at e;subst e;have A:=dQ ha;have B:=dQ hb;obtain⟨x,hx,ix⟩:=Bl (E:=E) ha bt.1 (by omega) h0;have bx:=Bk bt.1 h0;have hpx:=mV (E:=E) ix bx (by omega);have px:=qe ix;obtain⟨p,q,hn,ip,iq⟩:=Ab (E:=E) h bt (by omega) (o9 h0);obtain⟨bp,bq⟩:=Hk bt (o9 h0);have Sg:=mV (E:=E) ip bp (by omega);obtain⟨Q9,Q7,Ra,Q8,pn2,pm2,pn3,pm3,pn4,pm4,pn5,pm5,rfl,-,-,-,P,O⟩:=cD ip;obtain⟨FJ,FH,FK,FI,_,_,rfl,-,-,-,-⟩:=bR iq;have Q:=aU _ iq;refine mO au7 ?_;intro ts hl g0;unfold c25;simp only[↓aQ,aR,↓aT,aK,↓reduceIte,aa,ah,ak,ae,an,ao,aq,Tryz.f25,ai,hl,g0,A,B,hx,hpx,px,hn,Sg,P,O,Q,h2];rfl
end Go.Proofs.YtblnjkjjedanaaaGreatDoor
namespace Go.Proofs.YtblnjkjjedanaaaGreatDoor
open Go Dv Dv.bV
open Go.Proofs.dN
variable{E:Env}[C:Ctx E]
theorem Bh(a b:Nat):lc a b=Nat.lcm a b:=by unfold lc Nat.lcm;rw[Nat.div_mul_right_comm (aUX a b)]
theorem DS{n D:Int}(hD:D≠0):((n:Rat)/(D:Rat)).den∣D.natAbs:=by
 rw[<-aWf,Rat.den_divInt,if_neg hD];exact Nat.div_dvd_of_dvd (by rw[Int.gcd];exact aUX _ _)
structure ZD(a:V3)(D n0 n1 n2:Int):Prop where
 ne:D≠0
 x:a.x=(n0:Rat)/(D:Rat)
 y:a.y=(n1:Rat)/(D:Rat)
 z:a.z=(n2:Rat)/(D:Rat)
theorem aiU{a:V3}{D n0 n1 n2:Int}(h:ZD a D n0 n1 n2):pD a∣D.natAbs:=by have h1:=DS (n:=n0) h.ne;have h2:=DS (n:=n1) h.ne;have h3:=DS (n:=n2) h.ne;rw[<-h.x]at h1;rw[<-h.y]at h2;rw[<-h.z]at h3;unfold pD;rw[Bh,Bh,Bh];exact aXN (aXN (aXN (Nat.one_dvd _) h1) h2) h3
theorem agH(a:V3):a.x.den∣pD a/\a.y.den∣pD a/\a.z.den∣pD a:=by unfold pD;rw[Bh,Bh,Bh];exact⟨aXH (aXI 1 _) (aXH (aXJ _ _) (aXJ _ _)),aXH (aXI _ _) (aXJ _ _),aXI _ _⟩
theorem Jp{q:Rat}{m:Nat}(h:q.den∣m):∃z:Int,(m:Rat)*q=(z:Rat):=by
 obtain⟨k,rfl⟩:=h;refine⟨(k:Int)*q.num,?_⟩;have hq:(q.den:Rat)*q=(q.num:Rat):=by
  have h1:(q.num:Rat)/((q.den:Int):Rat)=q:=by rw[<-aWf];exact Rat.num_divInt_den q
  have h2:((q.den:Int):Rat)≠0:=iK (by have:=q.den_nz;omega);have h3:((q.den:Int):Rat)=(q.den:Rat):=rfl;rw[h3]at h1 h2
  grind
 rw[aVR,<-hq,Rat.natCast_mul]
 have:((k:Int):Rat)=(k:Rat):=rfl
 rw[this]
 grind
theorem ai0{a:V3}{D n0 n1 n2:Int}(h:ZD a D n0 n1 n2):∃z0 z1 z2:Int,pW a=⟨z0,z1,z2⟩/\z0.natAbs<=n0.natAbs/\z1.natAbs<=n1.natAbs/\z2.natAbs<=n2.natAbs:=by
 obtain⟨d1,d2,d3⟩:=agH a;obtain⟨z0,e0⟩:=Jp d1;obtain⟨z1,e1⟩:=Jp d2;obtain⟨z2,e2⟩:=Jp d3;have hDq:=iK h.ne;have key:∀{q:Rat} {z n:Int},((pD a:Nat):Rat)*q=(z:Rat)->q=(n:Rat)/(D:Rat)->z.natAbs<=n.natAbs:=by
  intro q z n e1 e2;obtain⟨k,hk⟩:=aiU h;have h1:z*D=n*(pD a:Int):=by
   have:((z*D:Int):Rat)=((n*(pD a:Int):Int):Rat):=by
    rw[aVR,aVR,<-e1,e2]
    have:(((pD a:Nat):Int):Rat)=((pD a:Nat):Rat):=rfl
    rw[this]
    grind
   exact_mod_cast this
  have h2:z.natAbs*D.natAbs=n.natAbs*pD a:=by rw[<-aVS,h1,aVS,aTX]
  have hDn:0<D.natAbs:=by have:=h.ne;omega
  have hkp:1<=k:=by
   rcases aXM k with e|e
   ·rw[e,Nat.mul_zero]at hk;omega
   ·exact e
  have h3:pD a<=D.natAbs:=by rw[hk];exact Nat.le_mul_of_pos_right _ hkp
  have h4:z.natAbs*D.natAbs<=n.natAbs*D.natAbs:=by rw[h2];exact Nat.mul_le_mul_left _ h3
  exact Nat.le_of_mul_le_mul_right h4 hDn
 refine⟨z0,z1,z2,?_,key e0 h.x,key e1 h.y,key e2 h.z⟩;unfold pW eE;rw[e0,e1,e2]
theorem VT{a b c g:Nat}(hg:aUZ (aUZ (aUZ 0 a) b) c=g)(h0:0<g):aUZ (aUZ (aUZ 0 (a/g)) (b/g)) (c/g)=1:=by
 rw[aU7]at hg⊢;have ha:g∣a:=by rw[<-hg];exact aXH (aUX _ _) (aUX _ _)
 have hb:g∣b:=by rw[<-hg];exact aXH (aUX _ _) (aWd _ _)
 have hc:g∣c:=by rw[<-hg];exact aWd _ _
 rw[Nat.gcd_div ha hb,Nat.gcd_div (Nat.dvd_gcd ha hb) hc,hg];exact Nat.div_self h0
theorem U4(x:Rat):uG (0-x) 0= -uG x 0:=by
 unfold uG;by_cases h1:x<0
 ·rw[if_pos h1,if_neg (by grind),if_pos (by grind)];rfl
 ·rw[if_neg h1];by_cases h2:0<x
  ·rw[if_pos h2,if_pos (by grind)]
  ·rw[if_neg h2,if_neg (by grind),if_neg (by grind)];rfl
theorem YW(a:V3):yj (JV a) v0= -yj a v0:=by
 unfold yj JV v0;simp only[U4]
 grind
structure Ng(d:V3)(m0 m1 m2:Int):Prop where
 e:d=⟨(m0:Rat),(m1:Rat),(m2:Rat)⟩
 g:aUZ (aUZ (aUZ 0 m0.natAbs) m1.natAbs) m2.natAbs=1
theorem Ng.mW{d:V3}{m0 m1 m2:Int}(h:Ng d m0 m1 m2):mW d=d:=by
 obtain⟨rfl,hg⟩:=h;have hD:pD ⟨(m0:Rat),(m1:Rat),(m2:Rat)⟩=1:=by unfold pD;simp only[Rat.den_intCast];rfl
 have hW:pW ⟨(m0:Rat),(m1:Rat),(m2:Rat)⟩=⟨(m0:Rat),(m1:Rat),(m2:Rat)⟩:=by
  unfold pW eE;rw[hD];congr 1<;>exact Rat.one_mul _
 have hG:pG ⟨(m0:Rat),(m1:Rat),(m2:Rat)⟩=1:=by unfold pG;rw[hW];simp only[Rat.num_intCast];exact hg
 unfold Go.Proofs.YtblnjkjjedanaaaGreatDoor.mW;rw[hG,hW];unfold eE
 have:aTV 1 ((1:Nat):Int)=1:=by decide
 rw[this];congr 1<;>exact Rat.one_mul _
theorem LW{a:V3}{D n0 n1 n2:Int}(h:ZD a D n0 n1 n2)(dM:a≠v0):∃m0 m1 m2:Int,Ng (mW a) m0 m1 m2/\m0.natAbs<=n0.natAbs/\m1.natAbs<=n1.natAbs/\m2.natAbs<=n2.natAbs/\∃c:Rat,c≠0/\mW a=eE c a:=by
 obtain⟨z0,z1,z2,hz,l0,l1,l2⟩:=ai0 h;have hGp:=Pd dM;have hG:pG a=aUZ (aUZ (aUZ 0 z0.natAbs) z1.natAbs) z2.natAbs:=by unfold pG;rw[hz];simp only[Rat.num_intCast]
 have d0:pG a∣z0.natAbs:=by rw[hG,aU7];exact aXH (aUX _ _) (aUX _ _)
 have d1:pG a∣z1.natAbs:=by rw[hG,aU7];exact aXH (aUX _ _) (aWd _ _)
 have d2:pG a∣z2.natAbs:=by rw[hG];exact aWd _ _
 have q0:∀{z:Int},pG a∣z.natAbs->∃m:Int,z=m*(pG a:Int)/\m.natAbs=z.natAbs/pG a:=by
  intro z hd
  have:(pG a:Int)∣z:=Int.ofNat_dvd_left.2 hd
  obtain⟨m,hm⟩:=this;refine⟨m,by rw[hm,Int.mul_comm],?_⟩;rw[hm,aVS,aTX,Nat.mul_div_cancel_left _ hGp]
 obtain⟨m0,e0,f0⟩:=q0 d0;obtain⟨m1,e1,f1⟩:=q0 d1;obtain⟨m2,e2,f2⟩:=q0 d2;have hGq:(((pG a:Nat):Int):Rat)≠0:=iK (by omega);have Wg:∀{z m:Int},z=m*(pG a:Int)->aTV 1 (pG a)*(z:Rat)=(m:Rat):=by
  intro z m e;rw[aWf,e,aVR]
  grind
 refine⟨m0,m1,m2,⟨?_,?_⟩,?_,?_,?_,aTV 1 (pG a)*(pD a:Rat),?_,?_⟩
 ·unfold mW;rw[hz];unfold eE;simp only[Wg e0,Wg e1,Wg e2]
 ·rw[f0,f1,f2];exact VT hG.symm hGp
 ·rw[f0];exact aNR (aXK _ _) l0
 ·rw[f1];exact aNR (aXK _ _) l1
 ·rw[f2];exact aNR (aXK _ _) l2
 ·have hp:=Xq a;have Zt:(((pD a:Nat):Int):Rat)≠0:=iK (by omega);have h3:(((pD a:Nat):Int):Rat)=((pD a:Nat):Rat):=rfl;rw[h3]at Zt;rw[aWf];have h4:((1:Int):Rat)=1:=rfl;rw[h4];intro e;rcases Rat.mul_eq_zero.1 e with h|h
  ·have:(1:Rat)/(((pG a:Nat):Int):Rat)*(((pG a:Nat):Int):Rat)=1:=by grind
   rw[h]at this
   grind
  ·exact Zt h
 ·unfold mW pW eE;simp only[Rat.mul_assoc]
theorem Ng.neg{d:V3}{m0 m1 m2:Int}(h:Ng d m0 m1 m2):Ng (JV d) (-m0) (-m1) (-m2):=by
 obtain⟨rfl,hg⟩:=h;refine⟨?_,by simpa only[Int.natAbs_neg]using hg⟩;unfold JV;simp only[Rat.intCast_neg];congr 1<;>grind
theorem EJ{a:V3}{D n0 n1 n2:Int}(h:ZD a D n0 n1 n2)(dM:a≠v0):∃m0 m1 m2:Int,Ng (dX a) m0 m1 m2/\m0.natAbs<=n0.natAbs/\m1.natAbs<=n1.natAbs/\m2.natAbs<=n2.natAbs/\(∃c:Rat,c≠0/\dX a=eE c a)/\dX (dX a)=dX a:=by
 obtain⟨m0,m1,m2,hi,l0,l1,l2,c,hc,G3⟩:=LW h dM;unfold dX;by_cases hs:yj (mW a) v0<0
 ·rw[if_pos hs];refine⟨-m0,-m1,-m2,hi.neg,by omega,by omega,by omega,⟨-c,by grind,?_⟩,?_⟩
  ·rw[G3];unfold JV eE;congr 1<;>grind
  ·rw[hi.neg.mW,YW,if_neg (by omega)]
 ·rw[if_neg hs];refine⟨m0,m1,m2,hi,l0,l1,l2,⟨c,hc,G3⟩,?_⟩;rw[hi.mW,if_neg hs]
def cV(r:List Rat):Tw:=⟨⟨r.getD 0 0,r.getD 1 0,r.getD 2 0⟩,⟨r.getD 3 0,r.getD 4 0,r.getD 5 0⟩⟩
theorem WX{r:List Rat}(h:r.length=6):r=[r.getD 0 0,r.getD 1 0,r.getD 2 0,r.getD 3 0,r.getD 4 0,r.getD 5 0]:=by
 match r,h with
 |[a,b,c,d,e,f],_=>rfl
theorem xZ{k:Nat}{r:List Rat}(h:r.length=6)(b:BL k r):BT k (cV r):=
 ⟨⟨b.get (by omega),b.get (by omega),b.get (by omega)⟩,⟨b.get (by omega),b.get (by omega),b.get (by omega)⟩⟩
theorem Cw{r:List Rat}(h:r.length=6){k:Nat}(b:BL k r)(hk:k<=98000):∃a,aO E 23 [.agg (r.map fun q=>.str (bC q))]=some (.tuple [a,.int .i64 0])/\AL a (cV r):=by
 have AA:∀s∈r.map bC,s.length<=4611686018427387904:=by
  intro s hs;rw[aNp]at hs;obtain⟨x,hx,rfl⟩:=hs
  have:=rm (b x hx)
  omega
 have hc:=Jc b hk;rw[WX h]at AA hc;simp only[List.map_cons,List.map_nil]at AA hc;obtain⟨a,h1,h2⟩:=JT (E:=E) AA;rw[hc]at h1;refine⟨a,?_,?_⟩
 ·conv=>lhs;rw[WX h]
  exact h1
 ·unfold twS at h2;rw[if_pos hc]at h2;simp only[om]at h2;exact h2
theorem aiB{H:Hp}{b:Nat}{ks vs:List AV}{k v:AV}{r:cG}(h:H[b]?=some (.map .live ks vs))(hc:ek E [.map .live ks vs] 81 (.iL 0) k v=some [(0,r)]):ek E H 81 (.iL b) k v=some [(b,r)]:=by
 unfold ek at hc⊢;cases hi:E.ty 81 with
 |none=>rw[hi]at hc;simp at hc
 |some i=>
  rw[hi]at hc;obtain⟨cS,isAgg,size,bytes,zero,eQ⟩:=i;cases cS<;>simp only[h,aP1]at hc⊢<;>try (simp at hc;done)
  split at hc<;>try (simp at hc;done)
  rename_i hp;rw[if_neg hp];split at hc
  ·rename_i e1 e2
   try simp only at hc⊢
   split at hc<;>try (simp at hc;done)
   rename_i hk0
   try rw[hk0]
   try simp only at hc⊢
   split at hc<;>try (simp at hc;done)
   rename_i hs
   try rw[if_pos hs]
   simp only[aLv.injEq,List.cons.injEq,Prod.mk.injEq,true_and,and_true]at hc⊢;exact hc
  ·rename_i e1 e2;simp only[aLv.injEq,List.cons.injEq,Prod.mk.injEq,true_and,and_true]at hc⊢;exact hc
  ·simp at hc
theorem aiy{H:Hp}{b:Nat}{st:iH}{ks vs:List AV}{k r:AV}(h:H[b]?=some (.map st ks vs))(hc:jk E [.map st ks vs] 81 (.iL 0) k false=some r):jk E H 81 (.iL b) k false=some r:=by
 rw[<-hc];unfold jk
 have:Bm H (.iL b)=Bm [.map st ks vs] (.iL 0):=by simp only[Bm,h,aP1]
 rw[this]
theorem Jo{aM:Nat}:zY E aM 81 none=some (.iL aM,[(aM,.map .live [] [])]):=by
 obtain⟨o,rfl⟩:=fT C
 kernel_rfl
theorem NC{aM f:Nat}:aW E aM 80 1 [(0,.func f [] [])]=some (.aI aM 0 1 1 1,[(aM,.cells .live [.func f [] []])]):=by
 obtain⟨o,rfl⟩:=fT C
 kernel_rfl
theorem ND{aM f g:Nat}:aW E aM 80 2 [(0,.func f [] []),(1,.func g [] [])]=some (.aI aM 0 2 1 2,[(aM,.cells .live [.func f [] [],.func g [] []])]):=by
 obtain⟨o,rfl⟩:=fT C
 kernel_rfl
theorem aiC{H l:Hp}{L:Nat}{v:AV}(h:H.length=L):ek E (H++ .map .live [] []::l) 81 (.iL L) (.int .i64 1) v=some [(L,.map .live [.int .i64 1] [v])]:=aiB (by rw[gk h];rfl) (by obtain⟨o,rfl⟩:=fT C;kernel_rfl)
theorem aiD{H l:Hp}{L:Nat}{a v:AV}(h:H.length=L):ek E (H++ .map .live [.int .i64 1] [a]::l) 81 (.iL L) (.int .i64 2) v=some [(L,.map .live [.int .i64 1,.int .i64 2] [a,v])]:=aiB (by rw[gk h];rfl) (by obtain⟨o,rfl⟩:=fT C;kernel_rfl)
theorem aiE{H l:Hp}{L:Nat}{a b v:AV}(h:H.length=L):ek E (H++ .map .live [.int .i64 1,.int .i64 2] [a,b]::l) 81 (.iL L) (.int .i64 3) v=some [(L,.map .live [.int .i64 1,.int .i64 2,.int .i64 3] [a,b,v])]:=aiB (by rw[gk h];rfl) (by obtain⟨o,rfl⟩:=fT C;kernel_rfl)
theorem aqf{H l:Hp}{L:Nat}{a b c:AV}(h:H.length=L):jk E (H++ .map .live [.int .i64 1,.int .i64 2,.int .i64 3] [a,b,c]::l) 81 (.iL L) (.int .i64 0) false=some .aH:=aiy (by rw[gk h];rfl) (by obtain⟨o,rfl⟩:=fT C;kernel_rfl)
theorem agc{n b o:Nat}{H l:Hp}{cs:List AV}(h:b<H.length):nZ n (H.set b (.cells .live cs)++l) b o=if o+n<=cs.length then some (.agg ((cs.drop o).take n))else none:=by
 rw[rN (by rw[List.length_set];exact h),jL (aOc h) (by decide)]
theorem ayx{H l:Hp}{L:Nat}{a b c:AV}(h:H.length=L):jk E (H++ .map .live [.int .i64 1,.int .i64 2,.int .i64 3] [a,b,c]::l) 81 (.iL L) (.int .i64 1) false=some a:=aiy (by rw[gk h];rfl) (by obtain⟨o,rfl⟩:=fT C;kernel_rfl)
theorem ayy{H l:Hp}{L:Nat}{a b c:AV}(h:H.length=L):jk E (H++ .map .live [.int .i64 1,.int .i64 2,.int .i64 3] [a,b,c]::l) 81 (.iL L) (.int .i64 2) false=some b:=aiy (by rw[gk h];rfl) (by obtain⟨o,rfl⟩:=fT C;kernel_rfl)
def PR(G:List (List Rat)):List Tw:=G.map cV
def eJ(k n:Int)(cl:Bool):AV:=cw k n cl [] [] [] [] [] [] []
def ak4(G:List (List Rat))(bb cl:Bool)(r:AV):Prop:=(G.length=0/\r=eJ 0 0 cl)∨(G.length=1/\∃k a0 a1 a2 b0 b1 b2 h,rO (cV (row G 0)) 0=cw k 0 false a0 a1 a2 b0 b1 b2 h/\r=cw k 1 cl a0 a1 a2 b0 b1 b2 h)∨(G.length=2/\(cV (row G 0)).a=v0/\r=eJ 8 2 cl)∨(G.length=2/\(cV (row G 0)).a≠v0/\bb=true/\∃k a0 a1 a2 b0 b1 b2 h,NS (cV (row G 0)) 0=cw k 0 false a0 a1 a2 b0 b1 b2 h/\r=cw k 2 cl a0 a1 a2 b0 b1 b2 h)∨(G.length=2/\(cV (row G 0)).a≠v0/\bb=false/\r=eJ 8 2 cl)
theorem Bu{k d:Int}{cl:Bool}{a0 a1 a2 b0 b1 b2 h:List UInt8}:bJ (.agg [.int .i64 k,.int .i64 d,.bool cl,.str a0,.str a1,.str a2,.str b0,.str b1,.str b2,.str h])=true:=rfl
theorem Rz(t:Tw):∃k a0 a1 a2 b0 b1 b2 h,rO t 0=cw k 0 false a0 a1 a2 b0 b1 b2 h:=by
 unfold rO
 split
 ·exact⟨_,_,_,_,_,_,_,_,rfl⟩
 ·split
  ·exact⟨_,_,_,_,_,_,_,_,rfl⟩
  ·exact⟨_,_,_,_,_,_,_,_,rfl⟩
theorem tw2{cs:List AV}{t0 t1:Tw}(h:ve cs [t0,t1]):∃c0 c1,cs=c0++c1/\AL (.agg c0) t0/\AL (.agg c1) t1:=by
 cases h with
 |@cons c0 tL _ _ h0 M0 h'=>
  cases h' with
  |@cons c1 agy _ _ h1 uN h''=>
   cases h'';exact⟨c0,c1,by rw[aRf],h0,h1⟩
theorem kh{E:Env} [C:lS E]{o rv:AV}{G rays:List (List Rat)}{k:Nat}{bb:Bool}(ho:mz o G)(qP:mz rv rays)(hw:iX G 6)(hb:mR k G)(hk:k<=98000)(yI:G.length<=2)(wH:aO E 8 [.agg [.int .i64 6,o,rv]]=some (.int .i64 0))
  (h1:∀k a0 a1 a2 b0 b1 b2 h,G.length=1->rO (cV (row G 0)) 0=cw k 0 false a0 a1 a2 b0 b1 b2 h->aO E 29 [cw k 1 false a0 a1 a2 b0 b1 b2 h,o]=some (.bool true)/\¬((cV (row G 0)).a=v0/\(cV (row G 0)).l=v0))
  (h2:G.length=2->(cV (row G 0)).a≠v0->aO E 29 [NS (cV (row G 0)) 2,o]=some (.bool bb)):
  ∃r,aO E 9 [.agg [.int .i64 6,o,rv]]=some (.tuple [r,.int .i64 0])/\ak4 G bb ((rays.length:Int)==0) r:=by
 suffices hh:∃u,aO E 9 [.agg [.int .i64 6,o,rv]]=some u/\∃r,u=(.tuple [r,.int .i64 0])/\ak4 G bb ((rays.length:Int)==0) r by
  obtain⟨u,h1,r,rfl,h2⟩:=hh;exact⟨r,h1,h2⟩
 have Db:=qP.len;have mr:=qP.lY;have rr:fO rv=[]:=by rcases qP with⟨-,rfl⟩|⟨-,rfl⟩<;>rfl
 have jN:=ho.len;have mo:=ho.lY;refine mO fn9 ?_;intro ts hl g0;unfold c9;simp only[↓aQ,aR,↓aT,aK,↓reduceIte,aa,ah,ae,Tryz.f9,aE,hl,g0,wH,mo,mr,jN];refine fh (fun k_ ts H=>∃i w HC cs,k_=G.length-i/\ts.length=98/\gt ts 1=.b6 0 0/\gt ts 2=.b6 1 0/\gt ts 5=w/\gt ts 26=o/\gt ts 27=.int .i64 (G.length:Int)/\gt ts 28=.int .i64 (i:Int)/\H=HC/\(i<=G.length)/\(2<=HC.length)/\(HC[0]?=some (.cells .live [.int .i64 6,o,rv]))/\(HC[1]?=some (.cells .live [.int .i64 0,.int .i64 0,.bool false,.str [],.str [],.str [],.str [],.str [],.str [],.str []]))/\(u7 24 2 w HC i cs)/\(ve cs (PR (G.take i)))) (G.length) ?_ ?_
 rotate_left
 ·refine⟨0,.aH,[.cells .live [.int .i64 6,o,rv],.cells .live [.int .i64 0,.int .i64 0,.bool false,.str [],.str [],.str [],.str [],.str [],.str [],.str []]],[],(by first|omega|rfl|(simp;done)),(by simp only[cK,hl]),?_⟩;simp only[cM,hl,aa,ae]
  iterate 7 refine⟨by first|trivial|rfl|(congr 1;omega)|(simp;done)|(simp;omega),?_⟩
  refine⟨?_,?_,?_,?_,?_,?_⟩
  ·omega
  ·simp
  ·rfl
  ·rfl
  ·exact .inl ⟨rfl,rfl,rfl⟩
  ·exact .nil
 clear hl g0 ts;rintro k_ ts H ⟨i,w,HC,cs,rfl,hl,g1,g2,g5,g26,g27,TX,rfl,hi,hCl,hC0,Zk,vL,hT⟩;refine VS ?_;by_cases hd:i<G.length
 ·have dc:decide ((i:Int)<(G.length:Int))=true:=cF (by omega);have oF:((i:Int)<(G.length:Int))=True:=eq_true (by omega);have w1:aV .i64 ((i:Int)+1)=((i+1:Nat):Int):=by rw[wrap_i64 (by omega) (by omega)];omega
  obtain⟨-,rfl⟩:=ho.resolve_left (fun h=>by rw[h.1]at hd;exact absurd hd (by simp));have p1:=dL (vs:=G.map dS) (i:=i) (by rw[aOT];exact hd);rw[sX hd]at p1;obtain⟨a,ha,ia⟩:=Cw (E:=E) (hw i hd) (hb i hd) hk;obtain⟨c,rfl,iE,C7,B6⟩:=oD ia;obtain⟨tc,htc⟩:∃tc,tc=(row G i).map (fun q=>AV.str (bC q)):=⟨_,rfl⟩;have apu:tc.length=6:=by rw[htc,aOT,hw i hd]
  have axN:bE tc=true:=by
   rw[htc];generalize row G i=q;induction q with
   |nil=>rfl
   |cons x q ih=>simp only[List.map_cons,bE,aN,ih,Bool.and_self]
  have axT:dS (row G i)=.aJ tc 6:=by unfold dS;rw[<-htc,hw i hd]
  rw[<-htc]at ha;rw[axT]at p1;have I7:Gl E 78 (.aJ tc 6)=some (.eU tc 0):=afz Uv;have apw:aTa 6 tc=tc:=by rw[<-apu,aR7]
  have apv:aTa 24 c=c:=by rw[<-iE,aR7]
  have pt6:iR true 6 tc 0=some (.agg tc):=by simp[iR,apu,apw]
  have pS:∀aM,aW E aM 70 1 [(0,AV.agg c)]=some (.aI aM 0 1 24 1,[(aM,.cells .live c)]):=fun aM=>gE uo rfl (by decide) (by decide) iE
  have hTl:=hT.len;have axQ:(PR (G.take i)).length=i:=by unfold PR;rw[aOT,List.length_take];omega
  obtain⟨bM,H2,gT,uJ,t1,t2,t3⟩:=jR (E:=E) (H:=H++[.cells .live c]) (x:=c) uo (by decide) (xu (l:=[.cells .live c]) (zh vL)) (by rw[hTl,axQ]) iE C7 (by unfold gq;omega) (by omega);have Wm:(H++[cG.cells iH.live c]).length=H.length+1:=by rw[aMk];rfl
  rw[Wm]at gT t1 t2 t3;simp only[aS1,aP4,aP5,aMk,aMn,List.length_nil,Nat.zero_add,ah]at gT uJ;have axR:PR (G.take (i+1))=PR (G.take i)++[cV (row G i)]:=by unfold PR;rw[List.take_add_one,List.map_append];congr 1;unfold row;rw[aMh hd,aSW,aMh hd];rfl
  simp only[↓aQ,aR,↓aT,aK,dt,↓reduceIte,aa,ah,ae,hl,g5,g26,g27,TX,oF,w1,p1,I7,pt6,ha,axN,iE,C7,apv,pS,gT,uJ,Nat.add_assoc,aS1,aMk];refine dO ?_;refine⟨_,?_,i+1,(.aI (H.length+2) 0 (i+1) 24 (i+1)),H2,(cs++c),rfl,(by simp only[cK,hl]),?_⟩
  ·first|omega|(simp;omega)
  simp only[cM,hl,aa,ae,g1,g2,g26,g27]
  iterate 7 refine⟨by first|trivial|rfl|(congr 1;omega)|(simp;done)|(simp;omega),?_⟩
  refine⟨?_,?_,?_,?_,?_,?_⟩
  ·omega
  ·omega
  ·rw[t3 0 (by omega) (uB vL (by omega)),aOB (by omega)];exact hC0
  ·rw[t3 1 (by omega) (uB vL (by omega)),aOB (by omega)];exact Zk
  ·exact .inr ⟨by omega,H.length+2,by omega,by omega,rfl,t1⟩
  ·rw[axR];exact hT.app ia iE
 ·have dc:decide ((i:Int)<(G.length:Int))=false:=cH (by omega);obtain rfl:i=G.length:=by omega
  rw[aR7]at hT;have Sb:jP w=some (G.length:Int):=by
   rcases vL with⟨h0,-,rfl⟩|⟨-,b,-,-,rfl,-⟩
   ·rw[h0];rfl
   ·rfl
  have c0:=fun l o=>kZ (T:=H) (l:=l) (o:=o) (show 0<H.length by omega)
  have c0F:=fun o=>jM (o:=o) hC0 (by decide)
  have a0L:=fun n l o=>rN (T:=H) (n:=n) (l:=l) (o:=o) (show 0<H.length by omega)
  have a0F:=fun n o=>jL (n:=n) (o:=o) hC0 (by decide)
  have a1L:=fun n l o=>rN (T:=H) (n:=n) (l:=l) (o:=o) (show 1<H.length by omega)
  have s1L:=fun n xs l o=>vt (T:=H) (n:=n) (xs:=xs) (l:=l) (o:=o) (show 1<H.length by omega)
  have s1F:=fun n xs o=>kG (n:=n) (xs:=xs) (o:=o) Zk
  have p1L:=fun x l=>vj (T:=H) (l:=l) (x:=x) (show 1<H.length by omega)
  have aS:=fun n cs l o=>agc (H:=H) (n:=n) (b:=1) (cs:=cs) (l:=l) (o:=o) (show 1<H.length by omega)
  have Wt:E.pairs 29 10=[(3,7),(4,7)]:=fm C.toCtx rfl;have aw8:jP AV.aH=some 0:=rfl;have aoq:0<G.length->∃b,b<H.length/\w=.aI b 0 G.length 24 G.length/\H[b]?=some (.cells .live cs)/\∀l,oG false (H++l) [.aI b 0 G.length 24 G.length]=some ([.aJ cs G.length],[b]):=by
   intro h0;rcases vL with⟨h1,-,-⟩|⟨-,b,f1,f2,f3,f4⟩
   ·omega
   ·exact⟨b,f2,f3,f4,fun l=>jQ (st:=.live) (by rw[aOB f2];exact f4) (by decide) (by rw[hT.len];unfold PR;rw[aOT]) hT.flat⟩
  have aoa:=fun{dr st:Bool} {bl:List AV} {H:Hp} {k:AV->cJ->Prop}=>lu (E:=E) (dr:=dr) (st:=st) (f:=24) (bl:=bl) (H:=H) (k:=k) (cn C.toCtx (by kernel_rfl))
  have aeD:=fun{dr st:Bool} {bl:List AV} {H:Hp} {k:AV->cJ->Prop}=>lu (E:=E) (dr:=dr) (st:=st) (f:=25) (bl:=bl) (H:=H) (k:=k) (cn C.toCtx (by kernel_rfl))
  have aB5:=fun{dr st:Bool} {bl:List AV} {H:Hp} {k:AV->cJ->Prop}=>lu (E:=E) (dr:=dr) (st:=st) (f:=26) (bl:=bl) (H:=H) (k:=k) (cn C.toCtx (by kernel_rfl))
  have aB6:=fun{dr st:Bool} {bl:List AV} {H:Hp} {k:AV->cJ->Prop}=>lu (E:=E) (dr:=dr) (st:=st) (f:=27) (bl:=bl) (H:=H) (k:=k) (cn C.toCtx (by kernel_rfl))
  have ahL:G.length=0∨G.length=1∨G.length=2:=by omega
  have yJ:∀j,j<G.length->(PR G).getD j ⟨v0,v0⟩=cV (row G j):=by intro j hj;unfold PR row;rw[aSW,aNe,aSW,aMh hj];rfl
  rcases ahL with h0|h0|h0
  ·rw[h0,show((0:Nat):Int)=0 from rfl]at Sb;simp only[↓aQ,aR,aK,dt,↓reduceIte,aa,ah,ae,ai,hl,g5,g27,TX,Jo,NC,ND,aiC,aiD,aiE,Sb,aqf,aw8,dc,aS1,aMk];refine gb 1 ?_;simp only[↓aQ,aR,aK,dt,↓reduceIte,aa,ah,ae,ao,ai,hl,g1,g2,g5,Sb,c0,c0F,s1L,s1F,p1L,rr,Db,aS,Wt,aMk];exact⟨_,rfl,.inl ⟨h0,rfl⟩⟩
  ·rw[h0,show((1:Nat):Int)=1 from rfl]at Sb;obtain⟨b,V9,rfl,hbH,gf⟩:=aoq (by omega);obtain⟨k',x0,x1,x2,y0,y1,y2,hh,hj⟩:=Rz (cV (row G 0));obtain⟨M5,hnz⟩:=h1 k' x0 x1 x2 y0 y1 y2 hh h0 hj;obtain⟨c,hc,KU⟩:=hT.get (i:=0) (by unfold PR;rw[aOT];omega);rw[yJ 0 (by omega)]at KU;have tg:cs=c:=by
    have:=hT.len
    rw[show(PR G).length=1 by unfold PR;rw[aOT,h0]]at this;rw[<-hc,Nat.zero_mul,aQh,List.take_of_length_le (by omega)]
   subst tg;have hal:=No (E:=E) KU (xZ (hw 0 (by omega)) (hb 0 (by omega))) (by omega) hnz;rw[hj]at hal;unfold cw at hal M5;rw[h0]at gf g5 Sb;simp only[↓aQ,aR,aK,dt,↓reduceIte,aa,ah,ae,ai,aD,hl,g5,g27,TX,Jo,NC,ND,aiC,aiD,aiE,Sb,ayx,dc,aS1,aMk];refine gb 2 ?_;simp only[↓aQ,aR,↓aT,aK,dt,↓reduceIte,aa,ah,ae,an,ao,aq,ai,ar,hl,g1,g2,g5,Sb,c0,c0F,s1L,s1F,p1L,Bu,mo,rr,Db,aS,Wt,gf,aoa,hal,M5,aS1,aMk];exact⟨_,rfl,.inr (.inl ⟨h0,k',x0,x1,x2,y0,y1,y2,hh,hj,rfl⟩)⟩
  ·rw[h0,show((2:Nat):Int)=2 from rfl]at Sb;obtain⟨b,V9,rfl,hbH,gf⟩:=aoq (by omega);have bL:=fun n l o=>rN (T:=H) (n:=n) (l:=l) (o:=o) V9
   have bF:=fun n o=>jL (n:=n) (o:=o) hbH (by decide)
   have td:ve cs [cV (row G 0),cV (row G 1)]:=by
    have:PR G=[cV (row G 0),cV (row G 1)]:=by
     refine rU (d:=⟨v0,v0⟩) (by unfold PR;rw[aOT,h0];rfl) (fun j hj=>?_);unfold PR at hj;rw[aOT,h0]at hj;rw[yJ j (by omega)]
     match j,hj with
     |0,_=>rfl
     |1,_=>rfl
    rw[<-this];exact hT
   obtain⟨e0,e1,rfl,q0,q1⟩:=tw2 td;have l1:=PS q1;have hbt:=xZ (hw 0 (by omega)) (hb 0 (by omega));obtain⟨Kh,Kf,Ki,Kg,Nt,Np,Nu,Nq,Nv,Nr,Nw,Ns,Ko,Kl,Kp,Km,Kq,Kn,UK,UH,UL,UI,UM,UJ,e,ha,hbb⟩:=id q0;simp only[AV.agg.injEq]at e;subst e;have A:=dQ ha;have hz:=iP (E:=E) ha hbt.1 (by omega);rw[h0]at gf g5 Sb;simp only[↓aQ,aR,aK,dt,↓reduceIte,aa,ah,ae,ai,aD,hl,g5,g27,TX,Jo,NC,ND,aiC,aiD,aiE,Sb,ayy,dc,aS1,aMk];by_cases hzz:(cV (row G 0)).a=v0
   ·rw[cF hzz]at hz;refine gb 2 ?_;simp only[↓aQ,aR,↓aT,aK,dt,↓reduceIte,aa,ah,ak,ae,an,ao,aq,ai,ar,aA,hl,g1,g2,g5,Sb,c0,c0F,s1L,s1F,p1L,rr,Db,aS,Wt,bL,bF,hz,A,l1,AF,aMk];exact⟨_,rfl,.inr (.inr (.inl ⟨h0,hzz,rfl⟩))⟩
   ·rw[cH hzz]at hz;have hcy:=FY (E:=E) q0 l1 hbt (by omega) hzz;have yK:=h2 h0 hzz;unfold NS cw at hcy yK;simp only[aP4,aP5]at hcy;refine gb 2 ?_;cases bb with
    |true=>
     simp only[↓aQ,aR,↓aT,aK,dt,↓reduceIte,aa,ah,ak,ae,an,ao,aq,ai,ar,hl,g1,g2,g5,Sb,c0,c0F,s1L,s1F,p1L,Bu,mo,rr,Db,aS,Wt,bL,bF,hz,A,l1,aeD,gf,hcy,yK,aS1,aMk];exact⟨_,rfl,.inr (.inr (.inr (.inl ⟨h0,hzz,rfl,_,_,_,_,_,_,_,_,rfl,rfl⟩)))⟩
    |false=>
     simp only[↓aQ,aR,↓aT,aK,dt,↓reduceIte,aa,ah,ak,ae,an,ao,aq,ai,ar,aA,hl,g1,g2,g5,Sb,c0,c0F,s1L,s1F,p1L,Bu,mo,rr,Db,aS,Wt,bL,bF,hz,A,l1,AF,aeD,gf,hcy,yK,aS1,aMk];exact⟨_,rfl,.inr (.inr (.inr (.inr ⟨h0,hzz,rfl,rfl⟩)))⟩
theorem CX{B:Nat}{D n0 n1 n2 n3 n4 n5:Int}(hD:D≠0)(hB:D.natAbs<=2^B)(h:∀z∈[n0,n1,n2,n3,n4,n5],z.natAbs<=2^B):CV B (fv [(n0:Rat)/D,(n1:Rat)/D,(n2:Rat)/D,(n3:Rat)/D,(n4:Rat)/D,(n5:Rat)/D]):=by
 have hDq:=iK hD;simp only[aNn,List.not_mem_nil,or_false,forall_eq_or_imp,forall_eq]at h;obtain⟨h0,h1,h2,h3,h4,h5⟩:=h;refine⟨D,fun c=>[n0,n1,n2,n3,n4,n5].getD c 0,hD,hB,fun c=>?_⟩
 match c with
 |0=>exact⟨rfl,h0⟩
 |1=>exact⟨rfl,h1⟩
 |2=>exact⟨rfl,h2⟩
 |3=>exact⟨rfl,h3⟩
 |4=>exact⟨rfl,h4⟩
 |5=>exact⟨rfl,h5⟩
 |c+6=>
  refine⟨?_,Nat.zero_le _⟩;show(0:Rat)=((0:Int):Rat)/D
  have:((0:Int):Rat)=0:=rfl
  rw[this]
  grind
theorem YG{B:Nat}{r:List Rat}(h:CV B (fv r)):∃D n0 n1 n2 m0 m1 m2:Int,ZD (cV r).a D n0 n1 n2/\ZD (cV r).l D m0 m1 m2/\D.natAbs<=2^B/\n0.natAbs<=2^B/\n1.natAbs<=2^B/\n2.natAbs<=2^B/\m0.natAbs<=2^B/\m1.natAbs<=2^B/\m2.natAbs<=2^B:=by obtain⟨D,A,h0,h1,h2⟩:=h;exact⟨D,A 0,A 1,A 2,A 3,A 4,A 5,⟨h0,(h2 0).1,(h2 1).1,(h2 2).1⟩,⟨h0,(h2 3).1,(h2 4).1,(h2 5).1⟩,h1,(h2 0).2,(h2 1).2,(h2 2).2,(h2 3).2,(h2 4).2,(h2 5).2⟩
theorem mP{a b:Int}{x y:Nat}(ha:a.natAbs<=x)(hb:b.natAbs<=y):(a*b).natAbs<=x*y:=by rw[aVS];exact aSb ha hb
theorem ayR(B:Nat):2^(3*B+3)=8*(2^B*2^B*2^B):=by rw[show 3*B+3=3+(B+B+B)by omega,aR3,aR3,aR3]
theorem ayQ(B:Nat):2^(2*B+2)=4*(2^B*2^B):=by rw[show 2*B+2=2+(B+B)by omega,aR3,aR3]
theorem Z7(a b c D:Rat)(hD:D≠0):0+a/D*(a/D)+b/D*(b/D)+c/D*(c/D)=(a*a+b*b+c*c)/(D*D):=by grind
theorem SP(a b c d D N:Rat)(hD:D≠0)(hN:N≠0):1/(N/(D*D))*(a/D*(b/D)-c/D*(d/D))=(a*b-c*d)/N:=by
 have h1:1/(N/(D*D))=D*D/N:=by grind
 rw[h1];have h2:a/D*(b/D)-c/D*(d/D)=(a*b-c*d)/(D*D):=by grind
 rw[h2]
 grind
theorem Pf(a b c d e f D N:Rat)(hD:D≠0)(hN:N≠0):(0+a/D*(b/D)+c/D*(d/D)+e/D*(f/D))*(1/(N/(D*D)))=(a*b+c*d+e*f)/N:=by
 have h1:1/(N/(D*D))=D*D/N:=by grind
 rw[h1];have h2:0+a/D*(b/D)+c/D*(d/D)+e/D*(f/D)=(a*b+c*d+e*f)/(D*D):=by grind
 rw[h2]
 grind
theorem bd2{x y:Int}{X:Nat}(hx:x.natAbs<=X)(hy:y.natAbs<=X):(x-y).natAbs<=2*X:=by omega
theorem bd3{x y z:Int}{X:Nat}(hx:x.natAbs<=X)(hy:y.natAbs<=X)(hz:z.natAbs<=X):(x+y+z).natAbs<=3*X:=by omega
theorem Iw{B:Nat}{t:Tw}{D n0 n1 n2 m0 m1 m2:Int}(ha:ZD t.a D n0 n1 n2)(hl:ZD t.l D m0 m1 m2)(b0:n0.natAbs<=2^B)(b1:n1.natAbs<=2^B)(b2:n2.natAbs<=2^B)(c0:m0.natAbs<=2^B)(c1:m1.natAbs<=2^B)(c2:m2.natAbs<=2^B)(dM:t.a≠v0):
  ∃u0 u1 u2 N p0 p1 p2 q:Int,dX t.a=⟨u0,u1,u2⟩/\u0.natAbs<=2^B/\u1.natAbs<=2^B/\u2.natAbs<=2^B/\N≠0/\N.natAbs<=3*(2^B*2^B)/\j8 t=⟨(p0:Rat)/N,(p1:Rat)/N,(p2:Rat)/N⟩/\lM t=(q:Rat)/N/\p0.natAbs<=2*(2^B*2^B)/\p1.natAbs<=2*(2^B*2^B)/\p2.natAbs<=2*(2^B*2^B)/\q.natAbs<=3*(2^B*2^B)/\(∃c:Rat,c≠0/\dX t.a=eE c t.a)/\dX (dX t.a)=dX t.a:=by
 obtain⟨u0,u1,u2,hi,e0,e1,e2,hc,hid⟩:=EJ ha dM;have hDq:=iK ha.ne;have hs:=o9 dM;have T2:qV t.a t.a=((n0*n0+n1*n1+n2*n2:Int):Rat)/((D:Rat)*(D:Rat)):=by unfold qV;rw[ha.x,ha.y,ha.z,Z7 _ _ _ _ hDq,aXL,aXL,aVR,aVR,aVR]
 have hN:(n0*n0+n1*n1+n2*n2:Int)≠0:=by
  intro e;apply hs;rw[T2,e]
  have:((0:Int):Rat)=0:=rfl
  rw[this]
  grind
 have hNq:=iK hN;obtain⟨N,hNe⟩:∃N,N=n0*n0+n1*n1+n2*n2:=⟨_,rfl⟩;rw[<-hNe]at T2 hN hNq;have k00:=mP b0 b0;have k11:=mP b1 b1;have k22:=mP b2 b2;have x12:=mP b1 c2;have x21:=mP b2 c1;have x20:=mP b2 c0;have x02:=mP b0 c2;have x01:=mP b0 c1;have x10:=mP b1 c0;have y0:=mP b0 c0;have y1:=mP b1 c1;have y2:=mP b2 c2;have h1:((1:Int):Rat)=1:=rfl;refine⟨u0,u1,u2,N,n1*m2-n2*m1,n2*m0-n0*m2,n0*m1-n1*m0,n0*m0+n1*m1+n2*m2,hi.e,aNR e0 b0,aNR e1 b1,aNR e2 b2,hN,by rw[hNe];exact bd3 k00 k11 k22,?_,?_,bd2 x12 x21,bd2 x20 x02,bd2 x01 x10,bd3 y0 y1 y2,hc,hid⟩
 ·unfold j8;rw[T2,h1];unfold eE bX;simp only[ha.x,ha.y,ha.z,hl.x,hl.y,hl.z,Rat.intCast_sub,aVR,SP _ _ _ _ _ _ hDq hNq]
 ·unfold lM;rw[T2,h1];unfold qV;simp only[ha.x,ha.y,ha.z,hl.x,hl.y,hl.z,aXL,aVR,Pf _ _ _ _ _ _ _ _ hDq hNq]
end Go.Proofs.YtblnjkjjedanaaaGreatDoor
