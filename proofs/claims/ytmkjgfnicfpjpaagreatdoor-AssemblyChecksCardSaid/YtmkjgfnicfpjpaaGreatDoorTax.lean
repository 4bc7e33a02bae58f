/- Lemmas for AssemblyChecks; no condition. -/
import Derived.Test.YtmkjgfnicfpjpaaGreatDoorTaw
set_option linter.all false
set_option maxHeartbeats 100000000
set_option maxRecDepth 100000
noncomputable section
open List renaming getElem?_append_left->aNB,getElem?_eq_getElem->aLh,length_append->aLk,getD_eq_getElem?_getD->aTc,getElem?_set_ne->aNt,append_assoc->aTs,getElem?_eq_some_iff->aKB,getElem?_set_self->aNv,getElem_mem->aLr,getElem?_map->aMf,not_mem_nil->aVd,mem_cons->aMp,mem_map->aMr,cons_append->aQv,set_append_left->aVt,getElem_of_mem->aWj
open Nat renaming lt_or_eq_of_le->aVr,le_of_lt_succ->aVs,zero_add->aLg,reduceLT->aa,reduceEqDiff->ae,reduceAdd->ah,reduceLeDiff->ai,reduceMul->ak
open Bool renaming false_eq_true->aK4
open Int renaming reduceLE->an,reduceLT->aq,reduceToNat->ar,reduceGE->aw,reduceAdd->aA,reduceNeg->aB,reduceBNe->aE,reduceEq->aF
namespace Go.Proofs.YtmkjgfnicfpjpaaGreatDoor
open Go Dv Dv.dR
variable{E:Env}[C:Ctx E]
structure S3(c:List AV)(va fa ea:AV):Prop where
 eq:c=[va,fa,ea]
 one:cL va=true/\cL fa=true/\cL ea=true
 pure:aU va=true/\aU fa=true/\aU ea=true
 flat:∀x∈[va,fa,ea],Flat x
def qV.s3{s:Sh}(h:qV s):∃va fa ea,S3 (qk s) va fa ea:=by
 refine⟨_,_,_,rfl,⟨mB,mB,mB⟩,⟨qL (Ao h.vs),qL (CJ fun f hf=>(h.fs f hf).ok),qL (Cz _)⟩,?_⟩;intro x hx;simp only[aMp,aVd,or_false]at hx;rcases hx with rfl|rfl|rfl<;>exact yM
def RF{a b:Sh}(ha:qV a)(hb:qV b):aR E 129 [.agg (qk a),.agg (qk b)]=some (.func 172 [] [.cU (qk a) 0,.cU (qk b) 0]):=by
 suffices hh:∃r,aR E 129 [.agg (qk a),.agg (qk b)]=some r/\r=.func 172 [] [.cU (qk a) 0,.cU (qk b) 0]by obtain⟨r,h1,rfl⟩:=hh;exact h1
 obtain⟨va,fa,ea,⟨e1,o1,p1,f1⟩⟩:=ha.s3;obtain⟨vb,fb,eb,⟨e2,o2,p2,f2⟩⟩:=hb.s3;rw[e1,e2];obtain⟨u,fY⟩:∃u,qR false [.cells .live [va,fa,ea],.cells .live [vb,fb,eb]] [.func 172 [] [.bI 0 0,.bI 1 0]]=some ([.func 172 [] [.cU [va,fa,ea] 0,.cU [vb,fb,eb] 0]],u):=
  ⟨_,k8 (m:=3) (eu.cons (Fr.func (eu.cons (Fr.hp (st:=.live) rfl (by decide) (eu.flat f1)) (eu.cons (Fr.hp (st:=.live) rfl (by decide) (eu.flat f2)) eu.nil))) eu.nil) (by omega) (by simp[aV,aU])⟩
 refine pX aqS ?_;intro ts hl g0 g1;unfold aor;simp only[↓aL,aM,aa,ae,Tryz.f129,hl,g0,g1,Jb,fY]
structure PI(L:Nat)(lp:ct)(a b:List AV)(H:Hp):Prop where
 h0:H[0]?=some (.cells .live a)
 h1:H[1]?=some (.cells .live b)
 h2:∃t,H[2]?=some (.cells .live [.bool t])
 hL:H[L]?=some lp
 lt:L<H.length
def PI.app{L:Nat}{lp:ct}{a b:List AV}{H T:Hp}(h:PI L lp a b H):PI L lp a b (H++T):=by
 have l0:=(aKB.1 h.h0).1;have l1:=(aKB.1 h.h1).1;obtain⟨t,h2⟩:=h.h2;have l2:=(aKB.1 h2).1;exact⟨by rw[aNB l0];exact h.h0,by rw[aNB l1];exact h.h1,⟨t,by rw[aNB l2];exact h2⟩,by rw[aNB h.lt];exact h.hL,by rw[aLk];have:=h.lt;omega⟩
def DF{a b:Sh}(ha:qV a)(hb:qV b):∃r,aR E 94 [.agg (qk a),.agg (qk b)]=some r/\∃t:Bool,r=.bool t:=by
 have Ub:=RF (E:=E) ha hb;have asS:=fun{n:List AV} (h:gK 100000 n)=>AB (E:=E) ha h
 have asT:=fun{n:List AV} (h:gK 100000 n)=>AB (E:=E) hb h
 obtain⟨va,fa,ea,⟨e1,o1,p1,f1⟩⟩:=ha.s3;obtain⟨vb,fb,eb,⟨e2,o2,p2,f2⟩⟩:=hb.s3;rw[e1,e2]at Ub;rw[e1]at asS;rw[e2]at asT;rw[e1,e2];refine pX ayC ?_;intro ts hl g0 g1;unfold c94;simp only[↓aL,aM,↓aT,aJ,↓reduceIte,aa,ah,ae,Tryz.f94,hl,g0,g1,p1,p2,Ub];obtain⟨tsO,rfl⟩:∃tsO,tsO=ts:=⟨ts,rfl⟩;have Uf:=hl;clear hl g0 g1;refine IC (f:=172) (first:=[]) (cap:=[.cU [va,fa,ea] 0,.cU [vb,fb,eb] 0]) (by simp only[aZ,aQ,Uf,aa]) (by rw[C.fn];exact arc) ?_;intro ac bd tr EC Xd Su ts Bl;have tl:tr.length=36:=by rw[Su];simp only[bc,Uf]
 have t2:gt tr 2=.bI 0 0:=by rw[Su];simp only[aZ,Uf,aa,ae]
 have t3:gt tr 3=.bI 1 0:=by rw[Su];simp only[aZ,Uf,aa,ae]
 have t4:gt tr 4=.bI 2 0:=by rw[Su];simp only[aZ,Uf,aa,ae]
 have key:∀(H:Hp) (n:List AV),gK 100000 n->PI 3 (.loop .ready none tr [13] ac bd) [va,fa,ea] [vb,fb,eb] H->
   ∃r H',nE E 3 [.agg n] H=some (r,H')/\((r=.bool true/\PI 3 (.loop .ready none tr [13] ac bd) [va,fa,ea] [vb,fb,eb] H'/\∀k,k<H.length->k≠3->H'[k]?=H[k]?)∨(r=.bool false/\H'[3]?=some (.loop .done (some .ret) tr [13] ac bd)/\H'[2]?=some (.cells .live [.bool false]))):=by
  intro H n hn hP;refine D0 (G:=fun r H'=>(r=.bool true/\PI 3 (.loop .ready none tr [13] ac bd) [va,fa,ea] [vb,fb,eb] H'/\∀k,k<H.length->k≠3->H'[k]?=H[k]?)∨(r=.bool false/\H'[3]?=some (.loop .done (some .ret) tr [13] ac bd)/\H'[2]?=some (.cells .live [.bool false]))) hP.hL (args:=[.agg n]) (ts':=tr.set 13 (.agg n)) rfl ?_;obtain⟨na,hna,hnb⟩:=hn.ex;obtain⟨jq,jm,jr,ja,jt,jb,ju,jc,jv,jn,jw,jo,en,-,-,-,Pn,On⟩:=dC hna;injection en with en
  subst en;obtain⟨tz,EO⟩:∃tz,tz=tr.set 13 (.agg [.bool jq,jm,.bool jr,ja,.bool jt,jb,.bool ju,jc,.bool jv,jn,.bool jw,jo]):=⟨_,rfl⟩;rw[<-EO];have hl:tz.length=36:=by rw[EO];simp only[List.length_set,tl]
  have g2:gt tz 2=.bI 0 0:=by rw[EO];simp only[aY,ne_eq,ae,not_false_eq_true,t2]
  have g3:gt tz 3=.bI 1 0:=by rw[EO];simp only[aY,ne_eq,ae,not_false_eq_true,t3]
  have g4:gt tz 4=.bI 2 0:=by rw[EO];simp only[aY,ne_eq,ae,not_false_eq_true,t4]
  have g13:gt tz 13=.agg [.bool jq,jm,.bool jr,ja,.bool jt,jb,.bool ju,jc,.bool jv,jn,.bool jw,jo]:=by rw[EO];simp only[aN,tl,aa]
  rw[EC];refine VS ?_;simp only[↓aL,aM,aJ,cH,↓reduceIte,aa,ah,ae,hl,g13,On];refine⟨none,tr,[13],ac,bd,hP.app.hL,?_⟩;obtain⟨HB,hHB⟩:∃HB,HB=H.set 3 (.loop .busy none tr [13] ac bd):=⟨_,rfl⟩;rw[aVt _ _ hP.lt,<-hHB,Xd];have hBl:HB.length=H.length:=by rw[hHB];simp
  have W8:∀k,k≠3->HB[k]?=H[k]?:=fun k hk=>by rw[hHB,aNt (Ne.symm hk)]
  have hBL:HB[3]?=some (.loop .busy none tr [13] ac bd):=by rw[hHB,aNv hP.lt]
  have ek:=hP.lt;obtain⟨tt,h2⟩:=hP.h2;have b0:HB[0]?=some (.cells .live [va,fa,ea]):=by rw[W8 0 (by omega)];exact hP.h0
  have b1:HB[1]?=some (.cells .live [vb,fb,eb]):=by rw[W8 1 (by omega)];exact hP.h1
  have b2:HB[2]?=some (.cells .live [.bool tt]):=by rw[W8 2 (by omega)];exact h2
  have l0:∀{T:Hp},eP 3 (HB++T) 0 0=some (.agg [va,fa,ea]):=by intro T;rw[dA,aNB (by omega),b0];rfl
  have l1:∀{T:Hp},eP 3 (HB++T) 1 0=some (.agg [vb,fb,eb]):=by intro T;rw[dA,aNB (by omega),b1];rfl
  obtain⟨r1,hr1,lo1,hi1,rfl,Sk,as6⟩:=asS hn;obtain⟨r2,Ec,lo2,Xl,rfl,atk,as7⟩:=asT hn;obtain⟨q1,LM,bq1⟩:=Sk.ex;obtain⟨q2,XC,bq2⟩:=as6.ex;obtain⟨q3,hq3,bq3⟩:=atk.ex;obtain⟨q4,hq4,bq4⟩:=as7.ex;have Ea:=gS (E:=E) LM hq4 bq1 bq4;have CW:=gS (E:=E) hq3 XC bq3 bq2;obtain⟨an0,am0,an1,am1,rfl,Pa⟩:=Sk.cells;obtain⟨bn0,bm0,bn1,bm1,rfl,Pb⟩:=as6.cells;obtain⟨cn0,cm0,cn1,cm1,rfl,Pc⟩:=atk.cells;obtain⟨yU,yS,yV,yT,rfl,Pd⟩:=as7.cells;generalize qq q1 q4=z1 at Ea;generalize qq q3 q2=z2 at CW;obtain⟨HF,hHF⟩:∃HF,HF=HB.set 2 (.cells .live [.bool false]):=⟨_,rfl⟩;have sF:∀{T:Hp},gT 1 [.bool false] (HB++T) 2 0=some (.cells .live [.bool false]):=by intro T;rw[dX,aNB (by omega),b2];rfl
  have pF:∀{T:Hp},cJ (HB++T) 2 (.cells .live [.bool false])=HF++T:=by intro T;rw[dk (by rw[aLk];omega),aVt _ _ (by omega),hHF]
  have hFl:HF.length=HB.length:=by rw[hHF];simp
  have hF2:HF[2]?=some (.cells .live [.bool false]):=by rw[hHF,aNv (by omega)]
  have hF3:HF[3]?=some (.loop .busy none tr [13] ac bd):=by rw[hHF,aNt (by omega)];exact hBL
  by_cases Um:z1≥0
  ·have d1:decide (z1≥0)=true:=bh Um;simp only[↓aL,aM,↓aT,aJ,cH,↓reduceIte,aa,ah,ae,hl,g2,g3,g4,<-hBl,l0,l1,hr1,Ec,Ea,d1,sF,pF,Pn,Pa,Pb,Pc,Pd,p1,p2,aTs,aLk];refine⟨.busy,none,tr,[13],ac,bd,?_,.inr ⟨rfl,?_,?_⟩⟩
   ·rw[aNB (by omega)];exact hF3
   ·rw[aNv (by rw[aLk];omega),EC,Xd]
   ·rw[aNt (by omega),aNB (by omega)];exact hF2
  have d1:decide (z1≥0)=false:=bj Um;by_cases Uo:z2≥0
  ·have d2:decide (z2≥0)=true:=bh Uo;simp only[↓aL,aM,↓aT,aJ,cH,↓reduceIte,aa,ah,ae,hl,g2,g3,g4,<-hBl,l0,l1,hr1,Ec,Ea,CW,d1,d2,sF,pF,Pn,Pa,Pb,Pc,Pd,p1,p2,aTs,aLk];refine⟨.busy,none,tr,[13],ac,bd,?_,.inr ⟨rfl,?_,?_⟩⟩
   ·rw[aNB (by omega)];exact hF3
   ·rw[aNv (by rw[aLk];omega),EC,Xd]
   ·rw[aNt (by omega),aNB (by omega)];exact hF2
  have d2:decide (z2≥0)=false:=bj Uo;simp only[↓aL,aM,↓aT,aJ,cH,↓reduceIte,aa,ah,ae,hl,g2,g3,<-hBl,l0,l1,hr1,Ec,Ea,CW,d1,d2,Pn,Pa,Pb,Pc,Pd,p1,p2,aTs,aLk];refine⟨.busy,none,tr,[13],ac,bd,?_,.inl ⟨rfl,⟨?_,?_,⟨tt,?_⟩,?_,?_⟩,fun k hk hk3=>?_⟩⟩
  ·rw[aNB (by omega)];exact hBL
  ·rw[aNt (by omega),aNB (by omega)];exact b0
  ·rw[aNt (by omega),aNB (by omega)];exact b1
  ·rw[aNt (by omega),aNB (by omega)];exact b2
  ·rw[aNv (by rw[aLk];omega),EC,Xd]
  ·rw[List.length_set,aLk];omega
  ·rw[aNt (by omega),aNB (by omega),W8 k hk3]
 obtain⟨HS,hHS⟩:∃HS,HS=[ct.cells .live [va,fa,ea],.cells .live [vb,fb,eb],.cells .live [.bool false]]++[.loop .ready none tr (#[13]:Array Nat).toList ac bd]:=⟨_,rfl⟩;have hP:PI 3 (.loop .ready none tr [13] ac bd) [va,fa,ea] [vb,fb,eb] HS:=by rw[hHS];exact⟨rfl,rfl,⟨_,rfl⟩,rfl,by simp⟩
 rw[<-hHS];have hll:([ct.cells .live [va,fa,ea],.cells .live [vb,fb,eb],.cells .live [.bool false]]:Hp).length=3:=rfl;rw[hll]at Bl⊢;have hl:ts.length=63:=by rw[Bl];rfl
 have g0:gt ts 0=.yield 3:=by rw[Bl];rfl
 have g1:gt ts 1=.cU [va,fa,ea] 0:=by rw[Bl];rfl
 have g2:gt ts 2=.cU [vb,fb,eb] 0:=by rw[Bl];rfl
 clear Bl hHS hll;have atp:∀(Q:Hp->Prop),(∀H',H'[3]?=some (.loop .done (some .ret) tr [13] ac bd)->H'[2]?=some (.cells .live [.bool false])->Q H')->(∀H',PI 3 (.loop .ready none tr [13] ac bd) [va,fa,ea] [vb,fb,eb] H'->Q H')->V E aij ts HS (pO E [] fun x H2=>Q H2):=by
  intro Q LM XC;unfold aij;refine VS ?_;simp only[↓aL,aM,aJ,↓reduceIte,aa,ah,ak,ae,Tryz.f172,ai,hl,g1,g2];refine cE (fun k_ ts H=>∃i:Nat,∃H1,k_=(2-i:Nat)/\ts.length=63/\gt ts 0=.yield 3/\gt ts 1=.cU [va,fa,ea] 0/\gt ts 2=.cU [vb,fb,eb] 0/\gt ts 16=.agg [va,fa,ea,vb,fb,eb]/\gt ts 17=.int .i64 (i:Int)/\H=H1/\(i<=2)/\(PI 3 (.loop .ready none tr [13] ac bd) [va,fa,ea] [vb,fb,eb] H1)) (2) ?_ ?_
  rotate_left
  ·refine⟨0,HS,(by first|omega|rfl|simp),(by simp[bc,hl]),?_⟩;simp only[aZ,hl,aa,ae,g0,g1,g2]
   iterate 6 refine cG ?_
   refine⟨?_,?_⟩
   ·first|omega|trivial
   ·first|exact hP|trivial
  clear hl g0 g1 g2 ts;rintro k_ ts H ⟨i,H1,rfl,hl,g0,g1,g2,g16,g17,rfl,hi,hP⟩;refine VS ?_;by_cases hd:i<2
  ·have d1:decide ((i:Int)<2)=true:=bh;have mZ:=wz (z:=(i:Int)+1) (m:=i+1);obtain⟨s,hs,vv,ff,ee,⟨es,oS,pS,fS⟩,hdt⟩:∃s:Sh,qV s/\∃vv ff ee,S3 (qk s) vv ff ee/\List.take 3 (List.drop (i*3) [va,fa,ea,vb,fb,eb])=[vv,ff,ee]:=by
    rcases(by omega:i=0∨i=1)with rfl|rfl
    ·exact⟨a,ha,va,fa,ea,⟨e1,o1,p1,f1⟩,rfl⟩
    ·exact⟨b,hb,vb,fb,eb,⟨e2,o2,p2,f2⟩,rfl⟩
   have ci:=eT (i:=i) (n:=2) hd;rw[show((2:Nat):Int)=2 from rfl]at ci;have ci3:(i*3<=3)=True:=eq_true (by omega);have hff:ff=lR (xf s.fs) s.fs.length:=by unfold qk at es;injection es with _ es;injection es with es _;exact es.symm
   have hlf:kC ff=some ((s.fs.length:Nat):Int):=by rw[hff];exact nU
   simp only[↓aL,aM,aJ,cH,↓reduceIte,aa,ah,ae,ai,hl,g16,g17,ci,ci3,hdt,hlf,oS,aLk];have hP1:PI 3 (.loop .ready none tr [13] ac bd) [va,fa,ea] [vb,fb,eb] (H++[.cells .live [vv,ff,ee]]):=hP.app;refine cE (fun k_ ts H=>∃j:Nat,∃H1,k_=(s.fs.length-j:Nat)/\ts.length=63/\gt ts 0=.yield 3/\gt ts 1=.cU [va,fa,ea] 0/\gt ts 2=.cU [vb,fb,eb] 0/\gt ts 16=.agg [va,fa,ea,vb,fb,eb]/\gt ts 17=.int .i64 (i:Int)/\gt ts 21=ff/\gt ts 22=.int .i64 (s.fs.length:Int)/\gt ts 23=.int .i64 (j:Int)/\H=H1/\(j<=s.fs.length)/\(PI 3 (.loop .ready none tr [13] ac bd) [va,fa,ea] [vb,fb,eb] H1)) (s.fs.length) ?_ ?_
   rotate_left
   ·refine⟨0,(H++[.cells .live [vv,ff,ee]]),(by first|omega|rfl|simp),(by simp[bc,hl]),?_⟩;simp only[aZ,hl,aa,ae,g0,g1,g2,g16,g17]
    iterate 9 refine cG ?_
    refine⟨?_,?_⟩
    ·first|omega|trivial
    ·first|exact hP1|trivial
   clear hl g0 g1 g2 g16 g17 ts;rintro k_ ts H ⟨j,H1,rfl,hl,g0,g1,g2,g16,g17,g21,g22,g23,rfl,hj,hP⟩;refine VS ?_;by_cases lK:j<s.fs.length
   ·have d2:decide ((j:Int)<(s.fs.length:Int))=true:=bh;have azj:AV.aK (xf s.fs) s.fs.length=ff:=by rw[hff];exact(gf).symm
    rw[<-azj]at g21;have cj:=eT (i:=j) (n:=s.fs.length) lK;have f56:=hs.f56;have wj1:=wz (z:=(j:Int)+1) (m:=j+1);have pa:=af6 (fun f hf=>(hs.fs f hf).ok) lK;have EF:=hs.fs _ (aLr lK);generalize s.fs[j]=f at pa EF;obtain⟨n,o,hf1,hn⟩:=EF.nrm;have K17:=EF.ok.k17;have Ko:=EF.ok.ko;have Kt:(Ey f).take 12=n:=by unfold Ey;rw[hf1,aTs,List.take_left' hn.len]
    generalize Ey f=K at pa K17 Ko Kt;obtain⟨r,H2,hy,hG⟩:=key (H++[.cells .live K]) n (hn.mono (by omega)) hP.app;rcases hG with⟨rfl,hP2,-⟩|⟨rfl,hL2,hF2⟩
    ·simp only[↓aL,aM,aJ,cH,↓reduceIte,aa,ah,ae,ai,hl,g0,g21,g22,g23,cj,wj1,pa,K17,Ko,Kt,hy];refine bK ?_;refine⟨_,?_,j+1,H2,rfl,(by simp[bc,hl]),?_⟩
     ·first|omega|(simp;omega)
     simp only[aZ,hl,aa,ae,g0,g1,g2,g16,g17,g21,g22]
     iterate 9 refine cG ?_
     refine⟨?_,?_⟩
     ·omega
     ·exact hP2
    ·simp only[↓aL,aM,aJ,cH,↓reduceIte,aa,ah,ae,ai,hl,g0,g21,g22,g23,cj,pa,K17,Ko,Kt,hy];exact LM _ hL2 hF2
   have d2:decide ((j:Int)<(s.fs.length:Int))=false:=bj;simp only[↓aL,aM,↓reduceIte,aa,ae,hl,g17,g22,g23,d2,mZ];refine bK ?_;refine⟨_,?_,i+1,H,rfl,(by simp[bc,hl]),?_⟩
   ·first|omega|(simp;omega)
   simp only[aZ,hl,aa,ae,g0,g1,g2,g16]
   iterate 6 refine cG ?_
   refine⟨?_,?_⟩
   ·omega
   ·exact hP
  have d1:decide ((i:Int)<2)=false:=bj;obtain⟨r1,hr1,l1,rfl,Ue,aDj⟩:=rW (E:=E) hb;obtain⟨r2,Ec,l2,rfl,yj,aDk⟩:=rW (E:=E) ha;rw[e2]at hr1;rw[e1]at Ec;have hn1:kC (lR l1.flatten l1.length)=some ((l1.length:Nat):Int):=nU;have xh:kC (lR l2.flatten l2.length)=some ((l2.length:Nat):Int):=nU;obtain⟨v1,XO⟩:∃v1,v1=lR l1.flatten l1.length:=⟨_,rfl⟩;obtain⟨v2,G5⟩:∃v2,v2=lR l2.flatten l2.length:=⟨_,rfl⟩;rw[<-XO]at hr1 hn1;rw[<-G5]at Ec xh;simp only[↓aL,aM,↓aT,aJ,↓reduceIte,aa,ah,ae,hl,g1,g2,g17,d1,hr1,Ec,xh,p1,p2];refine cE (fun k_ ts H=>∃k:Nat,∃H1,k_=(l2.length-k:Nat)/\ts.length=63/\gt ts 0=.yield 3/\gt ts 8=v1/\gt ts 37=v2/\gt ts 38=.int .i64 (l2.length:Int)/\gt ts 39=.int .i64 (k:Int)/\H=H1/\(k<=l2.length)/\(PI 3 (.loop .ready none tr [13] ac bd) [va,fa,ea] [vb,fb,eb] H1)) (l2.length) ?_ ?_
  rotate_left
  ·refine⟨0,H,(by first|omega|rfl|simp),(by simp[bc,hl]),?_⟩;simp only[aZ,hl,aa,ae,g0]
   iterate 6 refine cG ?_
   refine⟨?_,?_⟩
   ·first|omega|trivial
   ·first|exact hP|trivial
  clear hl g0 g1 g2 g16 g17 ts;rintro k_ ts H ⟨k,H1,rfl,hl,g0,g8,g37,CR,BH,rfl,hk,hP⟩;refine VS ?_;by_cases hd:k<l2.length
  rotate_left
  ·have d1:decide ((k:Int)<(l2.length:Int))=false:=bj;simp only[↓aL,aM,↓reduceIte,aa,hl,CR,BH,d1];exact XC _ hP
  have d1:decide ((k:Int)<(l2.length:Int))=true:=bh;have hx2:AV.aK l2.flatten l2.length=v2:=by rw[G5];exact(gf).symm
  rw[<-hx2]at g37;have ck:=eT (i:=k) (n:=l2.length) hd;have qd:=wz (z:=(k:Int)+1) (m:=k+1);have pk:=rP yj hd;have o5:=yj _ (aLr hd);generalize l2[k]=row at pk o5;obtain⟨a2,CU,sn⟩:=o5.ex;obtain⟨xp,we,xq,wg,zf,y8,zg,y9,zj,za,zk,zd,ex,-,-,-,Px,Ox⟩:=dC CU;injection ex with ex
  subst ex;simp only[↓aL,aM,aJ,cH,↓reduceIte,aa,ah,ae,hl,g8,g37,CR,BH,ck,pk,hn1,Ox];obtain⟨HO,rfl⟩:∃HO,HO=H:=⟨H,rfl⟩;have aDz:=o5;refine cE (fun k_ ts H=>∃m:Nat,∃H1,k_=(l1.length-m:Nat)/\ts.length=63/\gt ts 0=.yield 3/\gt ts 8=v1/\gt ts 10=.bI HO.length 0/\gt ts 37=.aK l2.flatten l2.length/\gt ts 38=.int .i64 (l2.length:Int)/\gt ts 39=.int .i64 (k:Int)/\gt ts 43=v1/\gt ts 44=.int .i64 (l1.length:Int)/\gt ts 45=.int .i64 (m:Int)/\H=H1/\(m<=l1.length)/\(PI 3 (.loop .ready none tr [13] ac bd) [va,fa,ea] [vb,fb,eb] H1)/\(H1[HO.length]?=some (.cells .live [.bool xp,we,.bool xq,wg,.bool zf,y8,.bool zg,y9,.bool zj,za,.bool zk,zd]))) (l1.length) ?_ ?_
  rotate_left
  ·refine⟨0,(HO++[.cells .live [.bool xp,we,.bool xq,wg,.bool zf,y8,.bool zg,y9,.bool zj,za,.bool zk,zd]]),(by first|omega|rfl|simp),(by simp[bc,hl]),?_⟩;simp only[aZ,hl,aa,ae,g0,g8,g37,CR,BH]
   iterate 10 refine cG ?_
   refine⟨?_,?_,?_⟩
   ·first|omega|trivial
   ·first|exact hP.app|trivial
   ·first|simp|trivial
  clear hl g0 g8 g37 CR BH ts;rintro k_ ts H ⟨m,H1,rfl,hl,g0,g8,g10,g37,CR,BH,EA,Bf,ML,rfl,hm,hP,h10⟩;refine VS ?_;by_cases lK:m<l1.length
  rotate_left
  ·have d2:decide ((m:Int)<(l1.length:Int))=false:=bj;simp only[↓aL,aM,↓reduceIte,aa,ae,hl,BH,Bf,ML,d2,qd];refine bK ?_;refine⟨_,?_,k+1,H,rfl,(by simp[bc,hl]),?_⟩
   ·first|omega|(simp;omega)
   simp only[aZ,hl,aa,ae,g0,g8,g37,CR]
   iterate 6 refine cG ?_
   refine⟨?_,?_⟩
   ·omega
   ·exact hP
  have d2:decide ((m:Int)<(l1.length:Int))=true:=bh;have hx1:AV.aK l1.flatten l1.length=v1:=by rw[XO];exact(gf).symm
  rw[<-hx1]at EA;have cm:=eT (i:=m) (n:=l1.length) lK;have wm1:=wz (z:=(m:Int)+1) (m:=m+1);have pm:=rP Ue lK;have agI:=Ue _ (aLr lK);generalize l1[m]=aH7 at pm agI;obtain⟨a1,vE,mN⟩:=agI.ex;obtain⟨cr,BJ,hVc⟩:=Mn (E:=E) CU vE sn mN (by omega);have MN:=Mm sn mN;have hz:=tH (E:=E) hVc MN;obtain⟨Uy,Us,Uz,Ut,UA,Uu,UB,Uv,UC,Uw,UD,Ux,ey,-,-,-,Py,Oy⟩:=dC vE;injection ey with ey
  subst ey;obtain⟨cn0,cm0,cn1,cm1,cn2,cm2,cn3,cm3,cn4,cm4,cn5,cm5,rfl,-,-,-,Pc,Oc⟩:=dC hVc;have XE:gK 100000 [.bool cn0,cm0,.bool cn1,cm1,.bool cn2,cm2,.bool cn3,cm3,.bool cn4,cm4,.bool cn5,cm5]:=⟨_,hVc,MN.mono (by omega)⟩;have Xt:=(aKB.1 h10).1;have MT:=hP.lt;have l10:∀{T:Hp},eP 12 (H++T) HO.length 0=some (.agg [.bool xp,we,.bool xq,wg,.bool zf,y8,.bool zg,y9,.bool zj,za,.bool zk,zd]):=by intro T;rw[dA,aNB Xt,h10];rfl
  have azF:HO.length≠3:=by intro e;rw[e]at h10;rw[hP.hL]at h10;cases h10
  by_cases hcz:O6 a2 a1=v0
  ·rw[bh hcz]at hz;simp only[↓aL,aM,↓aT,aJ,cH,↓reduceIte,aa,ah,ae,hl,g10,EA,Bf,ML,cm,wm1,pm,l10,BJ,hz,Px,Py,Oy,Pc,Oc,aTs,aLk];refine bK ?_;refine⟨_,?_,m+1,(H++[.cells .live [.bool Uy,Us,.bool Uz,Ut,.bool UA,Uu,.bool UB,Uv,.bool UC,Uw,.bool UD,Ux],.cells .live [.bool cn0,cm0,.bool cn1,cm1,.bool cn2,cm2,.bool cn3,cm3,.bool cn4,cm4,.bool cn5,cm5]]),rfl,(by simp[bc,hl]),?_⟩
   ·first|omega|(simp;omega)
   simp only[aZ,hl,aa,ae,g0,g8,g10,g37,CR,BH,EA,Bf]
   iterate 10 refine cG ?_
   refine⟨?_,?_,?_⟩
   ·omega
   ·exact hP.app
   ·rw[aNB Xt];exact h10
  rw[bj hcz]at hz;obtain⟨r,H2,hy,hG⟩:=key (H++[.cells .live [.bool Uy,Us,.bool Uz,Ut,.bool UA,Uu,.bool UB,Uv,.bool UC,Uw,.bool UD,Ux],.cells .live [.bool cn0,cm0,.bool cn1,cm1,.bool cn2,cm2,.bool cn3,cm3,.bool cn4,cm4,.bool cn5,cm5]]) _ XE hP.app;rcases hG with⟨rfl,hP2,Bi⟩|⟨rfl,hL2,hF2⟩
  ·simp only[↓aL,aM,↓aT,aJ,cH,↓reduceIte,aa,ah,ae,hl,g0,g10,EA,Bf,ML,cm,wm1,pm,l10,BJ,hz,hy,Px,Py,Oy,Pc,Oc,aTs,aLk];refine bK ?_;refine⟨_,?_,m+1,H2,rfl,(by simp[bc,hl]),?_⟩
   ·first|omega|(simp;omega)
   simp only[aZ,hl,aa,ae,g0,g8,g10,g37,CR,BH,EA,Bf]
   iterate 10 refine cG ?_
   refine⟨?_,?_,?_⟩
   ·omega
   ·exact hP2
   ·rw[Bi _ (by rw[aLk];omega) azF,aNB Xt];exact h10
  ·simp only[↓aL,aM,↓aT,aJ,cH,↓reduceIte,aa,ah,ae,hl,g0,g10,EA,Bf,ML,cm,pm,l10,BJ,hz,hy,Px,Py,Oy,Pc,Oc,aTs,aLk];exact LM _ hL2 hF2
 refine atp _ ?_ ?_
 ·intro H' h3 h2;refine⟨.done,some .ret,tr,[13],ac,bd,h3,by decide,?_⟩
  dsimp only
  obtain⟨H4,qx⟩:∃H4,H4=H'.set 3 (.loop .exhausted (some .ret) tr [13] ac bd):=⟨_,rfl⟩;rw[<-qx];have c2:cellAt H4 2 0=some (.bool false):=by rw[bX,qx,aNt (by omega),h2];rfl
  simp only[↓aL,aM,aJ,aa,ae,Uf,c2];exact⟨_,rfl⟩
 ·intro H' hP;refine⟨.ready,none,tr,[13],ac,bd,hP.hL,by decide,?_⟩
  dsimp only
  obtain⟨H4,qx⟩:∃H4,H4=H'.set 3 (.loop .exhausted none tr [13] ac bd):=⟨_,rfl⟩;rw[<-qx];obtain⟨tt,h2⟩:=hP.h2;have h42:H4[2]?=some (.cells .live [.bool tt]):=by rw[qx,aNt (by omega)];exact h2
  have ek:=(aKB.1 h42).1;have s2:gT 1 [.bool true] H4 2 0=some (.cells .live [.bool true]):=by rw[dX,h42];rfl
  obtain⟨H5,hH5⟩:∃H5,H5=H4.set 2 (.cells .live [.bool true]):=⟨_,rfl⟩;have p5:cJ H4 2 (.cells .live [.bool true])=H5:=by rw[dk ek,hH5]
  have c2:cellAt H5 2 0=some (.bool true):=by rw[bX,hH5,aNv ek];rfl
  simp only[↓aL,aM,aJ,aa,ae,Uf,s2,p5,c2];exact⟨_,rfl⟩
def al7{E:Env}{t s rU:Nat}{ag:Bool}{z:List AV}(hS:dV E t=some (ag,s,rU,z)){H:Hp}{b n k:Nat}{i:IntKind}(hk:k<=n):HR E H t (.aI b 0 n s n) none (some (.int i (k:Int)))=some (.aI b 0 k s n):=by
 obtain⟨ti,e,ei,h1,h2,h3,h4,h5,_⟩:=iR hS;obtain⟨cD,jA,jS,jB,jZ,dQ⟩:=ti;simp only at h2;subst h2 h5;simp only[HR,h1,gg,h3,IL hk]
 simp
def E4(v:AV)(bG:List I3):Prop:=v=kO bG∨(bG=[]/\(v=.aH∨v=.dx))
def E4.one{v:AV}{bG:List I3}(h:E4 v bG):cL v=true:=by rcases h with rfl|⟨_,rfl|rfl⟩<;>rfl
def E4.cells{v:AV}{bG:List I3}(h:E4 v bG):v.cells=[v]:=by rcases h with rfl|⟨_,rfl|rfl⟩<;>rfl
def E4.pure{v:AV}{bG:List I3}(h:E4 v bG):aU v=true:=by
 rcases h with rfl|⟨_,rfl|rfl⟩
 ·exact Gl bG
 ·rfl
 ·rfl
def KM{v:AV}(hv:kC v=some 0)(h1:v.cells=[v])(hz:ej v=[])(hp:aU v=true):
  aR E 91 [.agg [v]]=some (.tuple [.agg [.aH,.aH,.aH],.int .i64 23]):=by
 suffices hh:∃r,aR E 91 [.agg [v]]=some r/\r=.tuple [.agg [.aH,.aH,.aH],.int .i64 23]by obtain⟨r,h1,rfl⟩:=hh;exact h1
 have hc:=IU (E:=E) hv h1 hz;refine qj ar7 ?_;intro ts hl g0;unfold c91;have d0:((23:Int)!=0)=true:=by decide
 simp only[↓aL,aM,↓aT,aJ,↓reduceIte,aa,ah,ae,Tryz.f91,hl,g0,hc,d0,hp]
def Zc{v:AV}{bG:List I3}(hv:E4 v bG)(hn:bG.length<=8):
  ∃(sh:List AV) (c:Int),aR E 91 [.agg [v]]=some (.tuple [.agg sh,.int .i64 c])/\((c≠0/\sh=[.aH,.aH,.aH])∨(c=0/\∃s:Sh,qV s/\sh=qk s)):=by
 rcases hv with rfl|⟨_,rfl|rfl⟩
 ·obtain⟨r,hr,sh,c,rfl,h⟩:=ad1 (E:=E) hn;exact⟨sh,c,hr,h⟩
 ·exact⟨_,23,KM rfl rfl rfl rfl,.inl ⟨by decide,rfl⟩⟩
 ·exact⟨_,23,KM rfl rfl rfl rfl,.inl ⟨by decide,rfl⟩⟩
def HQ{a b:Sh}(ha:qV a)(hb:qV b):∃t:Bool,aR E 93 [.agg (qk b),.cU (qk a) 0]=some (.bool t):=by
 obtain⟨r,hr,t,rfl⟩:=DF (E:=E) ha hb;obtain⟨va,fa,ea,⟨e1,o1,p1,f1⟩⟩:=ha.s3;obtain⟨vb,fb,eb,⟨e2,o2,p2,f2⟩⟩:=hb.s3;rw[e1,e2]at hr;rw[e1,e2]
 suffices hh:∃r,aR E 93 [.agg [vb,fb,eb],.cU [va,fa,ea] 0]=some r/\r=.bool t by obtain⟨r,h1,rfl⟩:=hh;exact⟨t,h1⟩
 refine pX ayB ?_;intro ts hl g0 g1;unfold c93;simp only[↓aL,aM,↓aT,aJ,↓reduceIte,aa,ah,ae,Tryz.f93,hl,g0,g1,p1,p2,hr]
abbrev Cl:Type:=AV×List I3
abbrev Shs:Type:=List Sh
def InC(v:AV)(cl:List Cl):Prop:=v=.aK (cl.map (·.1)) cl.length∨(cl=[]/\(v=.aH∨v=.dx))
structure anB(c:Cl):Prop where
 inv:E4 c.1 c.2
 n8:c.2.length<=8
def aql{cl:List Cl}{i:Nat}(h:i<cl.length):fG true 1 (cl.map (·.1)) (i*1)=some (.agg [cl[i].1]):=by
 have h1:i*1+1<=(cl.map (·.1)).length:=by simp;omega
 rw[jd h1,Nat.mul_one];rw[List.drop_eq_getElem_cons (by simpa using h)]
 simp
def DP(l:Shs):List AV:=(l.map qk).flatten
def qK(l:Shs):∀r∈l.map qk,r.length=3:=by intro r hr;obtain⟨p,_,rfl⟩:=aMr.1 hr;rfl
def HP(l:Shs):(DP l).length=l.length*3:=by unfold DP;rw[iY (qK l),List.length_map]
def al2{l:Shs}{i b:Nat}{H:Hp}(hb:H[b]?=some (.cells .live (DP l)))(hi:i<l.length):eP 3 H b (i*3)=some (.agg (qk l[i])):=by
 have h1:(l.map qk)[i]?=some (qk l[i]):=by rw[aMf,aLh hi];rfl
 rw[dA,hb]
 dsimp only
 have h3:=iM (qK l) (j:=i) (by simpa using hi);unfold DP;rw[if_neg (by decide),if_pos h3,jz (qK l) h1]
def al3{l:Shs}{i:Nat}(hi:i<l.length):fG true 3 (DP l) (i*3)=some (.agg (qk l[i])):=by
 have h1:(l.map qk)[i]?=some (qk l[i]):=by rw[aMf,aLh hi];rfl
 have h3:=iM (qK l) (j:=i) (by simpa using hi);unfold DP;rw[jd (s:=3) h3,jz (qK l) h1]
def Li(l:Shs):∀c∈DP l,Flat c:=by
 intro c hc;obtain⟨r,hr,BJ⟩:=List.mem_flatten.1 hc;obtain⟨s,_,rfl⟩:=aMr.1 hr;unfold qk at BJ;simp only[aMp,aVd,or_false]at BJ;rcases BJ with rfl|rfl|rfl<;>exact yM
def Lj:∀{l:Shs},(∀s∈l,qV s)->aV (DP l)=true
 |[],_=>rfl
 |s::l,h=>by
  have:DP (s::l)=qk s++DP l:=by simp[DP]
  rw[this,iB,(h s (by simp)).pure,Lj (l:=l) fun x hx=>h x (by simp[hx])];rfl
def Z1{l:Shs}(j:Nat):(DP l).take (j*3)=DP (l.take j):=by unfold DP;rw[kT j (qK l),List.map_take]
def Lk{nm:List UInt8}{dn:Int}{cv:AV}{cl:List Cl}(Sg:InC cv cl)(vQ:∀c∈cl,anB c)(hn:cl.length<=1000):
  ∃r,aR E 63 [.agg [.str nm,.int .i64 dn,cv]]=some r/\∃(v:AV) (c:Int),r=.tuple [v,.int .i64 c]:=by
 have qA:kC cv=some ((cl.length:Nat):Int):=by rcases Sg with rfl|⟨rfl,rfl|rfl⟩<;>rfl
 have ocv:cL cv=true:=by rcases Sg with rfl|⟨rfl,rfl|rfl⟩<;>rfl
 have rcv:ej cv=[]:=by rcases Sg with rfl|⟨rfl,rfl|rfl⟩<;>rfl
 have aea:cL (.str nm)=true:=rfl;refine qj ayr ?_;intro ts hl g0;unfold c63;by_cases h1:dn<1
 ·have d1:decide (dn<1)=true:=bh h1;simp only[↓aL,aM,aJ,aa,ae,Tryz.f63,hl,g0,d1];exact⟨_,_,rfl⟩
 have d1:decide (dn<1)=false:=bj h1;by_cases h2:dn>1048576
 ·have d2:decide (dn>1048576)=true:=bh h2;simp only[↓aL,aM,aJ,aa,ae,Tryz.f63,hl,g0,d1,d2];exact⟨_,_,rfl⟩
 have d2:decide (dn>1048576)=false:=bj h2;by_cases h3:cl.length=0
 ·have d3:((cl.length:Int)==0)=true:=by simp[h3]
  simp only[↓aL,aM,aJ,aa,ae,Tryz.f63,hl,g0,qA,d1,d2,d3];exact⟨_,_,rfl⟩
 have d3:((cl.length:Int)==0)=false:=by
  have:(cl.length:Int)≠0:=by omega
  simpa using this
 by_cases h4:6<cl.length
 ·have d4:decide ((cl.length:Int)>6)=true:=bh;simp only[↓aL,aM,aJ,aa,ae,Tryz.f63,hl,g0,qA,d1,d2,d3,d4];exact⟨_,_,rfl⟩
 have d4:decide ((cl.length:Int)>6)=false:=bj;obtain rfl:cv=.aK (cl.map (·.1)) cl.length:=by
  rcases Sg with h|⟨h,_⟩
  ·exact h
  ·rw[h]at h3;exact absurd rfl h3
 simp only[↓aL,aM,aJ,aa,ae,Tryz.f63,hl,g0,qA,d1,d2,d3,d4];refine cE (fun k_ ts H=>∃i:Nat,∃v:AV,∃ss:Shs,∃H1:Hp,k_=(cl.length-i:Nat)/\ts.length=64/\gt ts 4=v/\gt ts 31=.aK (cl.map (·.1)) cl.length/\gt ts 32=.int .i64 (cl.length:Int)/\gt ts 33=.int .i64 (i:Int)/\H=H1/\(i<=cl.length)/\(∀s∈ss,qV s)/\(ss.length=i)/\(uo 3 0 v H1 ss.length (DP ss))) (cl.length) ?_ ?_
 rotate_left
 ·refine⟨0,.aH,[],[.cells .live [.str nm,.int .i64 dn,.aK (cl.map (·.1)) cl.length]],(by first|omega|rfl|simp),(by simp[bc,hl]),?_⟩;simp only[aZ,hl,aa,ae]
  iterate 5 refine cG ?_
  refine⟨?_,?_,?_,?_⟩
  ·first|omega|trivial
  ·first|(intro s hs;cases hs)|trivial
  ·first|rfl|trivial
  ·first|exact .inl ⟨rfl,rfl,rfl⟩|trivial
 clear hl g0 ts;rintro k_ ts H ⟨i,v,ss,H1,rfl,hl,g4,g31,g32,g33,rfl,hi,hs,C0,hH⟩;refine VS ?_;by_cases hd:i<cl.length
 ·have e1:decide ((i:Int)<(cl.length:Int))=true:=bh;have ci:=eT (i:=i) (n:=cl.length) hd;have mZ:=wz (z:=(i:Int)+1) (m:=i+1);have pa:=aql hd;have GX:=vQ _ (aLr hd);generalize cl[i]=c at pa GX;obtain⟨cw,bG⟩:=c;have ocw:=GX.inv.one;have pcw:=GX.inv.pure;obtain⟨sh,c,hof,r8⟩:=Zc (E:=E) GX.inv GX.n8;rw[Nat.mul_one]at pa
  dsimp only at pa ocw pcw hof
  rcases r8 with⟨hc,rfl⟩|⟨rfl,s,adp,rfl⟩
  ·have dc:(c !=0)=true:=by simpa using hc
   simp only[↓aL,aM,↓aT,aJ,cH,↓reduceIte,aa,ah,ae,hl,g31,g32,g33,ci,pa,ocw,pcw,hof,dc,aTs,aLk];exact⟨_,_,rfl⟩
  have dc:((0:Int)!=0)=false:=by decide
  obtain⟨vv,ff,ee,⟨es,oS,pS,fS⟩⟩:=adp.s3;rw[es]at hof;have D9:∀aP,bQ E aP 101 1 [(0,AV.agg [vv,ff,ee])]=some (.aI aP 0 1 3 1,[(aP,.cells .live [vv,ff,ee])]):=fun aP=>jJ Gp rfl (by decide) (by decide) rfl
  obtain⟨v',bJ,lB,xj,-,-⟩:=xN (E:=E) (H:=H++[.cells .live [cw],.cells .live [vv,ff,ee]]) (low:=0) (x:=[vv,ff,ee]) Gp (by decide) hH.app (HP ss) rfl (by simp[oS]) (by unfold eU;omega) (by omega) (Nat.zero_le _);simp only[aLk,List.length_cons,List.length_nil,aLg,ah,aTs,aQv,List.nil_append]at lB;simp only[↓aL,aM,↓aT,aJ,cH,↓reduceIte,aa,ah,ae,hl,g4,g31,g32,g33,ci,mZ,pa,ocw,pcw,hof,dc,oS,D9,lB,aTs,aLk];rw[aTs,aQv,aQv,List.nil_append]at xj;generalize cC.app _ (cC.bJ bJ)=H3 at xj⊢;refine bK ?_;refine⟨_,?_,i+1,v',ss++[s],H3,rfl,(by simp[bc,hl]),?_⟩
  ·first|omega|(simp;omega)
  simp only[aZ,hl,aa,ae,g31,g32]
  iterate 5 refine cG ?_
  refine⟨?_,?_,?_,?_⟩
  ·omega
  ·intro x hx;rcases List.mem_append.1 hx with hx|hx
   ·exact hs x hx
   ·rw[List.mem_singleton]at hx;subst hx;exact adp
  ·rw[aLk,C0];rfl
  ·have:DP (ss++[s])=DP ss++[vv,ff,ee]:=by unfold DP;rw[List.map_append,List.flatten_append];simp[es]
   rw[aLk,this];exact xj
 have e1:decide ((i:Int)<(cl.length:Int))=false:=bj;rcases hH with⟨e0,-,-⟩|⟨k0,b,b0,bl,rfl,hb⟩
 ·omega
 simp only[↓aL,aM,aJ,↓reduceIte,aa,ae,hl,g4,g32,g33,e1];have hss:ss.length<=6:=by omega
 refine cE (fun k_ ts H=>∃j:Nat,∃H1:Hp,k_=(ss.length-j:Nat)/\ts.length=64/\gt ts 4=.aI b 0 ss.length 3 ss.length/\gt ts 50=.aI b 0 ss.length 3 ss.length/\gt ts 51=.int .i64 (ss.length:Int)/\gt ts 52=.int .i64 (j:Int)/\H=H1/\(j<=ss.length)/\(H1[b]?=some (.cells .live (DP ss)))) (ss.length) ?_ ?_
 rotate_left
 ·refine⟨0,H,(by first|omega|rfl|simp),(by simp[bc,hl]),?_⟩;simp only[aZ,hl,aa,ae,g4]
  iterate 5 refine cG ?_
  refine⟨?_,?_⟩
  ·first|omega|trivial
  ·first|exact hb|trivial
 clear hl g4 g31 g32 g33 ts;rintro k_ ts H ⟨j,H1,rfl,hl,g4,g50,g51,g52,rfl,hj,hb⟩;refine VS ?_;by_cases hd:j<ss.length
 rotate_left
 ·have e1:decide ((j:Int)<(ss.length:Int))=false:=bj;obtain⟨u,fY⟩:∃u,qR false H [.tuple [.aI b 0 ss.length 3 ss.length,.int .i64 0]]=some ([.tuple [.aK (DP ss) ss.length,.int .i64 0]],u):=
   ⟨_,k8 (m:=3) (eu.cons (Fr.tup (eu.cons (Fr.M0 hb (by decide) (HP ss) (eu.flat (Li ss))) (eu.cons ((Fr.flat fE).up (by omega)) eu.nil))) eu.nil) (by omega) (by simp[aV,aU])⟩
  simp only[↓aL,aM,↓reduceIte,aa,ae,hl,g4,g51,g52,e1,fY];exact⟨_,_,rfl⟩
 have e1:decide ((j:Int)<(ss.length:Int))=true:=bh;have cj:=eT (i:=j) (n:=ss.length) hd;have wj1:=wz (z:=(j:Int)+1) (m:=j+1);have pa:=al2 hb hd;have Eg:=hs _ (aLr hd);generalize ss[j]=s at pa Eg;have CV:=(aKB.1 hb).1;have dp:=al7 (E:=E) Gp (H:=H++[.cells .live (qk s)]) (b:=b) (n:=ss.length) (k:=j) (i:=.i64) (by omega);have Qm:(ss.take j).length=j:=by rw[List.length_take];omega
 have htk:∀x∈ss.take j,qV x:=fun x hx=>hs x (List.mem_of_mem_take hx)
 have hex:∀q,∃t:Bool,∀hq:q<(ss.take j).length,aR E 93 [.agg (qk (ss.take j)[q]),.cU (qk s) 0]=some (.bool t):=by
  intro q;by_cases hq:q<(ss.take j).length
  ·obtain⟨t,ht⟩:=HQ (E:=E) Eg (htk _ (aLr hq));exact⟨t,fun _=>ht⟩
  ·exact⟨false,fun h=>absurd h hq⟩
 obtain⟨r,hr,t,rfl,-⟩:=oO (E:=E) .s .s (n:=j) (g:=93) (cs:=DP (ss.take j)) (caps:=[.cU (qk s) 0]) (el:=fun q=>.agg (qk ((ss.take j).getD q ⟨[],[],[]⟩))) (p:=fun q=>Classical.choose (hex q)) (by omega) (bM C) (Lj htk) (by simp[aV,aU,Eg.pure])
  (fun q hq=>by rw[al3 (by omega),aTc,aLh (by omega)];rfl)
  (fun q hq=>by
   rw[aTc,aLh (by omega)]
   have:=(htk _ (aLr (show q<(ss.take j).length by omega))).pure
   simpa[aU]using this)
  (fun q hq=>by
   rw[aTc,aLh (by omega)];exact Classical.choose_spec (hex q) (by omega))
 obtain⟨u,fY⟩:∃u,qR false (H++[.cells .live (qk s)]) [.aI b 0 j 3 ss.length,.func 93 [] [.bI H.length 0]]=some ([.aK (DP (ss.take j)) j,.func 93 [] [.cU (qk s) 0]],u):=by
  refine⟨_,k8 (m:=3) (eu.cons ((Fr.hs (m:=1) (bs:=[]) (st:=.live) (cs:=DP ss) (by rw[aNB CV];exact hb) (by decide) (by rw[HP];omega) ?_).up (by omega)) (eu.cons (Fr.func (eu.cons (Fr.hp (st:=.live) (cs:=qk s) (by simp) (by decide) (eu.flat ?_)) eu.nil)) eu.nil)) (by omega) (by simp[aV,aU])⟩
  ·rw[List.drop_zero,Z1];exact eu.flat (Li _)
  ·intro c hc;unfold qk at hc;simp only[aMp,aVd,or_false]at hc;rcases hc with rfl|rfl|rfl<;>exact yM
 obtain⟨vv,ff,ee,⟨es,oS,pS,fS⟩⟩:=Eg.s3;rw[es]at pa dp hr fY;cases t
 ·simp only[↓aL,aM,↓aT,aJ,cH,↓reduceIte,aa,ah,ae,hl,g4,g50,g51,g52,cj,wj1,pa,oS,dp,fY,hr];refine bK ?_;refine⟨_,?_,j+1,(H++[.cells .live [vv,ff,ee]]),rfl,(by simp[bc,hl]),?_⟩
  ·first|omega|(simp;omega)
  simp only[aZ,hl,aa,ae,g4,g50,g51]
  iterate 5 refine cG ?_
  refine⟨?_,?_⟩
  ·omega
  ·rw[aNB CV];exact hb
 ·simp only[↓aL,aM,↓aT,aJ,cH,↓reduceIte,aa,ah,ae,hl,g4,g50,g51,g52,cj,pa,oS,dp,fY,hr];exact⟨_,_,rfl⟩
def Lh{nm:List UInt8}{dn:Int}{cv:AV}{cl:List Cl}(Sg:InC cv cl)(vQ:∀c∈cl,anB c)(hn:cl.length<=1000):
  ∃c:Int,aR E 33 [.agg [.str nm,.int .i64 dn,cv]]=some (.int .i64 c):=by
 obtain⟨r,hr,v,c,rfl⟩:=Lk (E:=E) (nm:=nm) (dn:=dn) Sg vQ hn;have ocv:cL cv=true:=by rcases Sg with rfl|⟨rfl,rfl|rfl⟩<;>rfl
 have pcv:aU cv=true:=by
  rcases Sg with rfl|⟨rfl,rfl|rfl⟩
  ·simp only[aU]
  ·rfl
  ·rfl
 have aea:cL (.str nm)=true:=rfl
 suffices hh:∃u,aR E 33 [.agg [.str nm,.int .i64 dn,cv]]=some u/\u=.int .i64 c by obtain⟨u,e,rfl⟩:=hh;exact⟨c,e⟩
 refine qj ayj ?_;intro ts hl g0;unfold c33;simp only[↓aL,aM,↓aT,aJ,↓reduceIte,aa,ah,ae,Tryz.f33,hl,g0,pcv,hr]
end Go.Proofs.YtmkjgfnicfpjpaaGreatDoor
namespace Go.Proofs.YtmkjgfnicfpjpaaGreatDoor
open Go Dv
variable{E:Env}[C:Ctx E]
def S9(i c:Nat):Bool:=(decide (97<=c)&&decide (c<=122))||(decide (i≠0)&&((decide (48<=c)&&decide (c<=57))||decide (c=45)||decide (c=95)))
def wR(s:List UInt8)(i:Nat):Nat:=(s.getD i 0).toNat
def wM(s:List UInt8):Bool:=decide (∀i,i<s.length->S9 i (wR s i)=true)&&decide (0<s.length/\s.length<=40)
def Y6{s:List UInt8}{i:Nat}(hi:i<s.length)(h:S9 i (wR s i)=false):wM s=false:=by unfold wM;rw[bj (fun k=>by rw[k i hi]at h;cases h)];rfl
def Y7{s:List UInt8}(h:∀i,i<s.length->S9 i (wR s i)=true):wM s=decide (0<s.length/\s.length<=40):=by unfold wM;rw[bh h];rfl
def Ze{i c:Nat}:S9 i c=(decide ((c:Int)≥97)&&decide ((c:Int)<=122)||!((i:Int)==0)&&(!decide ((c:Int)<48)&&!decide ((c:Int)>57)||!((c:Int)!=45)||!((c:Int)!=95))):=by
 unfold S9;rw[Bool.eq_iff_iff]
 simp
 omega
def JF{s:List UInt8}(hs:s.length<=4611686018427387904):aR E 26 [.str s]=some (.bool (wM s)):=by
 suffices hh:∃r,aR E 26 [.str s]=some r/\r=.bool (wM s)by obtain⟨r,h1,rfl⟩:=hh;exact h1
 have st9:kN E 9=true:=Lr C;refine qj ayd ?_;intro ts hl g0;unfold c26;simp only[↓aL,aM,aJ,aa,ae,Tryz.f26,hl,g0];refine cE (fun k_ ts H=>∃i:Nat,k_=(s.length-i:Nat)/\ts.length=51/\gt ts 0=.str s/\gt ts 6=.str s/\gt ts 7=.int .i64 (s.length:Int)/\gt ts 8=.int .i64 (i:Int)/\H=[]/\(i<=s.length)/\(∀j,j<i->S9 j (wR s j)=true)) (s.length) ?_ ?_
 rotate_left
 ·refine⟨0,(by first|omega|rfl|simp),(by simp[bc,hl]),?_⟩;simp only[aZ,hl,aa,ae,g0]
  iterate 5 refine cG ?_
  refine⟨?_,?_⟩
  ·first|omega|trivial
  ·first|(intro j hj;omega)|trivial
 clear hl g0 ts;rintro k_ ts H ⟨i,rfl,hl,g0,g6,g7,g8,rfl,hi,hq⟩;refine VS ?_;by_cases hd:i<s.length
 rotate_left
 ·have d1:decide ((i:Int)<(s.length:Int))=false:=bj;rw[Y7 fun j hj=>hq j (by omega)];by_cases h0:0<s.length
  ·have e0:decide ((s.length:Int)>0)=true:=bh;by_cases h40:s.length<=40
   ·have e1:decide ((s.length:Int)<=40)=true:=bh;simp only[↓aL,aM,aJ,↓reduceIte,aa,ae,hl,g0,g7,g8,d1,e0,e1];rw[bh ⟨h0,h40⟩]
   ·have e1:decide ((s.length:Int)<=40)=false:=bj;simp only[↓aL,aM,aJ,↓reduceIte,aa,ae,hl,g0,g7,g8,d1,e0,e1];rw[bj (fun h=>h40 h.2)]
  ·have e0:decide ((s.length:Int)>0)=false:=bj;simp only[↓aL,aM,aJ,↓reduceIte,aa,ae,hl,g0,g7,g8,d1,e0];rw[bj (fun h=>h0 h.1)]
 have d1:decide ((i:Int)<(s.length:Int))=true:=bh;have qz:lD E 9 (.str s) (.int .i64 (i:Int))=some (.int .u8 ((wR s i:Nat):Int)):=by
  have:=G6 (E:=E) (k:=.i64) (i:=i) st9 (s:=s) (c:=s[i]) (aLh hd)
  rw[this];unfold wR;rw[aTc,aLh hd];rfl
 have mZ:=wz (z:=(i:Int)+1) (m:=i+1);have zL:=fun h=>Y6 (s:=s) hd h
 have wH:S9 i (wR s i)=true->∀j,j<i+1->S9 j (wR s j)=true:=by
  intro h j hj;rcases aVr (aVs hj)with h2|rfl
  ·exact hq j h2
  ·exact h
 generalize wR s i=c at qz zL wH;have G0:S9 i c=(decide ((c:Int)≥97)&&decide ((c:Int)<=122)||!((i:Int)==0)&&(!decide ((c:Int)<48)&&!decide ((c:Int)>57)||!((c:Int)!=45)||!((c:Int)!=95))):=Ze
 revert G0
 cases ha:decide ((c:Int)≥97)<;>cases hb:decide ((c:Int)<=122)<;>cases hz:((i:Int)==0)<;>cases hk:decide ((c:Int)<48)<;>cases h57:decide ((c:Int)>57)<;>cases hm:((c:Int)!=45)<;>cases hu:((c:Int)!=95)
 all_goals
  intro G0;simp only[↓aL,aM,aa,ae,hl,g0,g7,g8,d1,qz,mZ,ha,hb,hz,hk,h57,hm,hu]
 all_goals try (rw[zL G0];done)
 all_goals
  refine bK ?_;refine⟨_,?_,i+1,rfl,(by simp[bc,hl]),?_⟩
  ·first|omega|(simp;omega)
  simp only[aZ,hl,aa,ae,g0,g6,g7]
  iterate 5 refine cG ?_
  refine⟨?_,?_⟩
  ·omega
  ·exact wH G0
def Dg{s:List UInt8}(hs:s.length<=4611686018427387904):aR E 35 [.str s]=some (.bool (wM s)):=by
 suffices hh:∃r,aR E 35 [.str s]=some r/\r=.bool (wM s)by obtain⟨r,h1,rfl⟩:=hh;exact h1
 have st9:kN E 9=true:=Lr C;refine qj ayl ?_;intro ts hl g0;unfold c35;simp only[↓aL,aM,Tryz.f35];refine cE (fun k_ ts H=>∃i:Nat,k_=(s.length-i:Nat)/\ts.length=51/\gt ts 0=.str s/\gt ts 3=.int .i64 (i:Int)/\H=[]/\(i<=s.length)/\(∀j,j<i->S9 j (wR s j)=true)) (s.length) ?_ ?_
 rotate_left
 ·refine⟨0,(by first|omega|rfl|simp),(by simp[bc,hl]),?_⟩;simp only[aZ,hl,aa,ae,g0]
  iterate 3 refine cG ?_
  refine⟨?_,?_⟩
  ·first|omega|trivial
  ·first|(intro j hj;omega)|trivial
 clear hl g0 ts;rintro k_ ts H ⟨i,rfl,hl,g0,g3,rfl,hi,hq⟩;refine VS ?_;by_cases hd:i<s.length
 rotate_left
 ·have d1:decide ((i:Int)<(s.length:Int))=false:=bj;rw[Y7 fun j hj=>hq j (by omega)];by_cases h0:0<s.length
  ·have e0:decide ((s.length:Int)≥1)=true:=bh;by_cases h40:s.length<=40
   ·have e1:decide ((s.length:Int)<=40)=true:=bh;simp only[↓aL,aM,aJ,↓reduceIte,aa,ae,hl,g0,g3,d1,e0,e1];rw[bh ⟨h0,h40⟩]
   ·have e1:decide ((s.length:Int)<=40)=false:=bj;simp only[↓aL,aM,aJ,↓reduceIte,aa,ae,hl,g0,g3,d1,e0,e1];rw[bj (fun h=>h40 h.2)]
  ·have e0:decide ((s.length:Int)≥1)=false:=bj;simp only[↓aL,aM,aJ,↓reduceIte,aa,ae,hl,g0,g3,d1,e0];rw[bj (fun h=>h0 h.1)]
 have d1:decide ((i:Int)<(s.length:Int))=true:=bh;have qz:lD E 9 (.str s) (.int .i64 (i:Int))=some (.int .u8 ((wR s i:Nat):Int)):=by
  have:=G6 (E:=E) (k:=.i64) (i:=i) st9 (s:=s) (c:=s[i]) (aLh hd)
  rw[this];unfold wR;rw[aTc,aLh hd];rfl
 have mZ:=wz (z:=(i:Int)+1) (m:=i+1);have zL:=fun h=>Y6 (s:=s) hd h
 have wH:S9 i (wR s i)=true->∀j,j<i+1->S9 j (wR s j)=true:=by
  intro h j hj;rcases aVr (aVs hj)with h2|rfl
  ·exact hq j h2
  ·exact h
 generalize wR s i=c at qz zL wH;have G0:S9 i c=(decide ((c:Int)≥97)&&decide ((c:Int)<=122)||!((i:Int)==0)&&(!decide ((c:Int)<48)&&!decide ((c:Int)>57)||!((c:Int)!=45)||!((c:Int)!=95))):=Ze
 revert G0
 cases ha:decide ((c:Int)≥97)<;>cases hb:decide ((c:Int)<=122)<;>cases hz:((i:Int)==0)<;>cases hk:decide ((c:Int)<48)<;>cases h57:decide ((c:Int)>57)<;>cases hm:((c:Int)!=45)<;>cases hu:((c:Int)!=95)
 all_goals
  intro G0;simp only[↓aL,aM,aJ,aa,ae,hl,g0,g3,d1,qz,mZ,ha,hb,hz,hk,h57,hm,hu]
 all_goals try (rw[zL G0];done)
 all_goals
  refine bK ?_;refine⟨_,?_,i+1,rfl,(by simp[bc,hl]),?_⟩
  ·first|omega|(simp;omega)
  simp only[aZ,hl,aa,ae,g0]
  iterate 3 refine cG ?_
  refine⟨?_,?_⟩
  ·omega
  ·exact wH G0
end Go.Proofs.YtmkjgfnicfpjpaaGreatDoor
namespace Go.Proofs.YtmkjgfnicfpjpaaGreatDoor
open Go Dv Dv.dR
variable{E:Env}[C:Ctx E]
def abm{c:Bool}{t0 t1 t2 t3:Int}:cd E c .eql 40 (.agg [.int .i64 t0,.int .i64 t1,.int .i64 t2,.int .i64 t3]) (.agg [.int .i64 0,.int .i64 0,.int .i64 0,.int .i64 0])=some (.bool (decide (t0=0/\t1=0/\t2=0/\t3=0))):=by
 have h:=JE (E:=E) (c:=c) (t:=40) (n:=4) (GQ C) (B7 C) (xs:=[t0,t1,t2,t3]) (ys:=[0,0,0,0]) rfl rfl;have e:decide ([t0,t1,t2,t3]=[0,0,0,0])=decide (t0=0/\t1=0/\t2=0/\t3=0):=by simp
 rw[e]at h;exact h
def Jx(t:Int):Bool:=decide (-12<=t/\t<=12)
def uF{t:Int}(h:Jx t=true):decide (t< -12)=false/\decide (t>12)=false:=by
 unfold Jx at h
 have:=of_decide_eq_true h
 exact⟨bj,bj⟩
def BM{t:Int}(h:¬Jx t=true):decide (t< -12)=true∨(decide (t< -12)=false/\decide (t>12)=true):=by
 unfold Jx at h
 have:¬(-12<=t/\t<=12):=fun e=>h (bh e)
 by_cases h1:t< -12
 ·exact .inl (bh h1)
 ·exact .inr ⟨bj h1,bh⟩
def KF{t0 t1 t2 t3:Int}{s0 s1 s2:List UInt8}(h0:s0.length<=4611686018427387904)(h1:s1.length<=4611686018427387904)(h2:s2.length<=4611686018427387904):
  ∃c,aR E 34 [.agg [.int .i64 t0,.int .i64 t1,.int .i64 t2,.int .i64 t3,.str s0,.str s1,.str s2]]=some (.int .i64 c)/\(c=0->(Jx t0=true/\Jx t1=true/\Jx t2=true/\Jx t3=true)/\¬(t0=0/\t1=0/\t2=0/\t3=0)/\A6 400 s0 s1 s2=0):=by
 suffices hh:∃u,aR E 34 [.agg [.int .i64 t0,.int .i64 t1,.int .i64 t2,.int .i64 t3,.str s0,.str s1,.str s2]]=some u/\∃c,u=.int .i64 c/\(c=0->(Jx t0=true/\Jx t1=true/\Jx t2=true/\Jx t3=true)/\¬(t0=0/\t1=0/\t2=0/\t3=0)/\A6 400 s0 s1 s2=0)by
  obtain⟨u,e,c,rfl,h⟩:=hh;exact⟨c,e,h⟩
 have hq:=fun{c:Bool}=>abm (E:=E) (c:=c) (t0:=t0) (t1:=t1) (t2:=t2) (t3:=t3)
 obtain⟨r,hr,ir⟩:=Ly (E:=E) h0 h1 h2;obtain⟨xp,we,xq,wg,zf,y8,zg,y9,zj,za,zk,zd,rfl,-,-,-,P,O⟩:=dC ir;refine qj ayk ?_;intro ts hl g0;unfold c34;by_cases hz:t0=0/\t1=0/\t2=0/\t3=0
 ·rw[bh hz]at hq;simp only[↓aL,aM,aJ,↓reduceIte,aa,ah,ae,Tryz.f34,ai,aB,hl,g0,hq];exact⟨_,rfl,fun e=>absurd e (by decide)⟩
 rw[bj hz]at hq;simp only[↓aL,aM,aJ,↓reduceIte,aa,ah,ae,Tryz.f34,ai,aB,hl,g0,hq];refine rN 5 ?_;by_cases k0:Jx t0=true
 rotate_left
 ·rcases BM k0 with e|⟨e,e'⟩
  ·simp only[↓aL,aM,aJ,↓reduceIte,aa,ae,an,aq,ar,aB,hl,e];exact⟨_,rfl,fun e=>absurd e (by decide)⟩
  ·simp only[↓aL,aM,aJ,↓reduceIte,aa,ae,an,aq,ar,aB,hl,e,e'];exact⟨_,rfl,fun e=>absurd e (by decide)⟩
 obtain⟨a0,a0'⟩:=uF k0;by_cases k1:Jx t1=true
 rotate_left
 ·rcases BM k1 with e|⟨e,e'⟩
  ·simp only[↓aL,aM,aJ,↓reduceIte,aa,ae,an,aq,ar,aA,aB,hl,a0,a0',qd,e];exact⟨_,rfl,fun e=>absurd e (by decide)⟩
  ·simp only[↓aL,aM,aJ,↓reduceIte,aa,ae,an,aq,ar,aA,aB,hl,a0,a0',qd,e,e'];exact⟨_,rfl,fun e=>absurd e (by decide)⟩
 obtain⟨a1,a1'⟩:=uF k1;by_cases k2:Jx t2=true
 rotate_left
 ·rcases BM k2 with e|⟨e,e'⟩
  ·simp only[↓aL,aM,aJ,↓reduceIte,aa,ae,an,aq,ar,aA,aB,hl,a0,a0',a1,a1',qd,O9,e];exact⟨_,rfl,fun e=>absurd e (by decide)⟩
  ·simp only[↓aL,aM,aJ,↓reduceIte,aa,ae,an,aq,ar,aA,aB,hl,a0,a0',a1,a1',qd,O9,e,e'];exact⟨_,rfl,fun e=>absurd e (by decide)⟩
 obtain⟨a2,a2'⟩:=uF k2;by_cases k3:Jx t3=true
 rotate_left
 ·rcases BM k3 with e|⟨e,e'⟩
  ·simp only[↓aL,aM,aJ,↓reduceIte,aa,ae,an,aq,ar,aA,aB,hl,a0,a0',a1,a1',a2,a2',qd,O9,wk3,e];exact⟨_,rfl,fun e=>absurd e (by decide)⟩
  ·simp only[↓aL,aM,aJ,↓reduceIte,aa,ae,an,aq,ar,aA,aB,hl,a0,a0',a1,a1',a2,a2',qd,O9,wk3,e,e'];exact⟨_,rfl,fun e=>absurd e (by decide)⟩
 obtain⟨a3,a3'⟩:=uF k3;simp only[↓aL,aM,aJ,↓reduceIte,aa,ah,ae,an,aq,ar,ai,aA,aB,hl,a0,a0',a1,a1',a2,a2',a3,a3',qd,O9,wk3,wk4];refine cE (fun k_ ts H=>∃i g sg,k_=4-i/\ts.length=60/\gt ts 1=.bI 0 0/\gt ts 5=.int .i64 ((g:Nat):Int)/\gt ts 6=.int .i64 sg/\gt ts 29=.agg [.int .i64 t0,.int .i64 t1,.int .i64 t2,.int .i64 t3]/\gt ts 30=.int .i64 (i:Int)/\H=[.cells .live [.int .i64 t0,.int .i64 t1,.int .i64 t2,.int .i64 t3,.str s0,.str s1,.str s2]]/\(i<=4)/\(g<=12)) (4) ?_ ?_
 rotate_left
 ·refine⟨0,0,0,(by first|omega|rfl|simp),(by simp[bc,hl]),?_⟩;simp only[aZ,hl,aa,ae]
  iterate 6 refine cG ?_
  refine⟨?_,?_⟩
  ·first|omega|trivial
  ·first|omega|trivial
 clear hl g0 ts;rintro k_ ts H ⟨i,g,sg,rfl,hl,g1,g5,g6,MK,Ij,rfl,hi,hg⟩;refine VS ?_;by_cases hd:i<4
 rotate_left
 ·have dc:decide ((i:Int)<4)=false:=bj;by_cases hb:(g:Int)=1/\¬sg<0
  ·have b1:((g:Int)!=1)=false:=by rw[hb.1];rfl
   have b2:decide (sg<0)=false:=bj hb.2;simp only[↓aL,aM,↓aT,aJ,↓reduceIte,aa,ah,ae,hl,g1,g5,g6,Ij,dc,b1,b2,hr,O];exact⟨_,rfl,fun e=>⟨⟨k0,k1,k2,k3⟩,hz,e⟩⟩
  ·by_cases mN:(g:Int)=1
   ·have b1:((g:Int)!=1)=false:=by rw[mN];rfl
    have b2:decide (sg<0)=true:=bh;simp only[↓aL,aM,↓reduceIte,aa,ae,hl,g5,g6,Ij,dc,b1,b2];exact⟨_,rfl,fun e=>absurd e (by decide)⟩
   ·have b1:((g:Int)!=1)=true:=bne_iff_ne.2 mN;simp only[↓aL,aM,↓reduceIte,aa,ae,hl,g5,Ij,dc,b1];exact⟨_,rfl,fun e=>absurd e (by decide)⟩
 have dc:decide ((i:Int)<4)=true:=bh;have dc':((i:Int)<4)=True:=eq_true (by omega);have w1:aW .i64 ((i:Int)+1)=((i+1:Nat):Int):=by rw[wrap_i64];omega
 obtain⟨t,vG,ht⟩:∃t,fG false 1 [.int .i64 t0,.int .i64 t1,.int .i64 t2,.int .i64 t3] i=some (.int .i64 t)/\Jx t=true:=by
  obtain e|e|e|e:i=0∨i=1∨i=2∨i=3:=by omega
  all_goals subst e
  ·exact⟨t0,rfl,k0⟩
  ·exact⟨t1,rfl,k1⟩
  ·exact⟨t2,rfl,k2⟩
  ·exact⟨t3,rfl,k3⟩
 have htb:=of_decide_eq_true ht;have hpr:E.pairs 17 6=[]:=dM C rfl;have wn:aW .i64 (0-t)= -t:=by rw[wrap_i64];omega
 obtain⟨a,ha,Sl⟩:∃a:Nat,a<=12/\∀H aP,bB E H aP .max [3,3] [.int .i64 t,.int .i64 (-t)]=some (.int .i64 (a:Int),[]):=by
  by_cases hp:0<=t
  ·refine⟨t.toNat,by omega,fun H aP=>?_⟩;rw[show((t.toNat:Nat):Int)=t by omega];by_cases h0:t=0
   ·subst h0;simp[bB,qw,AP]
   ·have h1:¬t< -t:=by omega
    simp[bB,qw,AP];omega
  ·refine⟨(-t).toNat,by omega,fun H aP=>?_⟩;rw[show(((-t).toNat:Nat):Int)= -t by omega];have h1:t< -t:=by omega
   simp[bB,qw,AP];omega
 by_cases zT:sg=0
 ·have hs:(sg==0)=true:=by rw[zT];rfl
  simp only[↓aL,aM,aJ,↓reduceIte,aa,ae,hl,g6,MK,Ij,dc',hs,vG,H9,wn,Sl];refine cE (fun k_ ts H=>∃g2 Ep sg2,k_=0+Ep/\ts.length=60/\gt ts 1=.bI 0 0/\gt ts 5=.int .i64 ((g2:Nat):Int)/\gt ts 6=.int .i64 sg2/\gt ts 9=.int .i64 ((Ep:Nat):Int)/\gt ts 29=.agg [.int .i64 t0,.int .i64 t1,.int .i64 t2,.int .i64 t3]/\gt ts 30=.int .i64 (i:Int)/\H=[.cells .live [.int .i64 t0,.int .i64 t1,.int .i64 t2,.int .i64 t3,.str s0,.str s1,.str s2]]/\(g2<=12)/\(Ep<=12)) (a) ?_ ?_
  rotate_left
  ·refine⟨g,a,t,(by first|omega|rfl|simp),(by simp[bc,hl]),?_⟩;simp only[aZ,hl,aa,ae,g1,g5,MK,Ij]
   iterate 7 refine cG ?_
   refine⟨?_,?_⟩
   ·first|omega|trivial
   ·first|omega|trivial
  clear hl g1 g5 g6 MK Ij ts;rintro k_ ts H ⟨g2,Ep,sg2,rfl,hl,g1,g5,g6,g9,MK,Ij,rfl,hg2,CU⟩;refine VS ?_;by_cases haz:Ep=0
  ·subst haz;simp only[↓aL,aM,↓reduceIte,aa,ae,aE,hl,g9,Ij,w1];refine bK ?_;refine⟨_,?_,i+1,g2,sg2,rfl,(by simp[bc,hl]),?_⟩
   ·first|omega|(simp;omega)
   simp only[aZ,hl,aa,ae,g1,g5,g6,MK]
   iterate 6 refine cG ?_
   refine⟨?_,?_⟩
   ·omega
   ·omega
  ·have hab:((Ep:Int)!=0)=true:=bne_iff_ne.2 (by omega);have XF:=fun{c:Bool} {t:Nat}=>mw (E:=E) (c:=c) (t:=t) (k:=.i64) (a:=g2) (b:=Ep) haz
   have ek:=Nat.mod_lt g2 (show 0<Ep by omega);simp only[↓aL,aM,aa,ah,ae,hl,g5,g9,hab,XF,hpr];refine bK ?_;refine⟨_,?_,Ep,g2%Ep,sg2,rfl,(by simp[bc,hl]),?_⟩
   ·first|omega|(simp;omega)
   simp only[aZ,hl,aa,ae,g1,g6,MK,Ij]
   iterate 7 refine cG ?_
   refine⟨?_,?_⟩
   ·omega
   ·omega
 ·have hs:(sg==0)=false:=beq_eq_false_iff_ne.2 zT;simp only[↓aL,aM,aJ,↓reduceIte,aa,ae,hl,g6,MK,Ij,dc',hs,vG,H9,wn,Sl];refine cE (fun k_ ts H=>∃g2 Ep sg2,k_=0+Ep/\ts.length=60/\gt ts 1=.bI 0 0/\gt ts 5=.int .i64 ((g2:Nat):Int)/\gt ts 6=.int .i64 sg2/\gt ts 9=.int .i64 ((Ep:Nat):Int)/\gt ts 29=.agg [.int .i64 t0,.int .i64 t1,.int .i64 t2,.int .i64 t3]/\gt ts 30=.int .i64 (i:Int)/\H=[.cells .live [.int .i64 t0,.int .i64 t1,.int .i64 t2,.int .i64 t3,.str s0,.str s1,.str s2]]/\(g2<=12)/\(Ep<=12)) (a) ?_ ?_
  rotate_left
  ·refine⟨g,a,sg,(by first|omega|rfl|simp),(by simp[bc,hl]),?_⟩;simp only[aZ,hl,aa,ae,g1,g5,g6,MK,Ij]
   iterate 7 refine cG ?_
   refine⟨?_,?_⟩
   ·first|omega|trivial
   ·first|omega|trivial
  clear hl g1 g5 g6 MK Ij ts;rintro k_ ts H ⟨g2,Ep,sg2,rfl,hl,g1,g5,g6,g9,MK,Ij,rfl,hg2,CU⟩;refine VS ?_;by_cases haz:Ep=0
  ·subst haz;simp only[↓aL,aM,↓reduceIte,aa,ae,aE,hl,g9,Ij,w1];refine bK ?_;refine⟨_,?_,i+1,g2,sg2,rfl,(by simp[bc,hl]),?_⟩
   ·first|omega|(simp;omega)
   simp only[aZ,hl,aa,ae,g1,g5,g6,MK]
   iterate 6 refine cG ?_
   refine⟨?_,?_⟩
   ·omega
   ·omega
  ·have hab:((Ep:Int)!=0)=true:=bne_iff_ne.2 (by omega);have XF:=fun{c:Bool} {t:Nat}=>mw (E:=E) (c:=c) (t:=t) (k:=.i64) (a:=g2) (b:=Ep) haz
   have ek:=Nat.mod_lt g2 (show 0<Ep by omega);simp only[↓aL,aM,aa,ah,ae,hl,g5,g9,hab,XF,hpr];refine bK ?_;refine⟨_,?_,Ep,g2%Ep,sg2,rfl,(by simp[bc,hl]),?_⟩
   ·first|omega|(simp;omega)
   simp only[aZ,hl,aa,ae,g1,g6,MK,Ij]
   iterate 7 refine cG ?_
   refine⟨?_,?_⟩
   ·omega
   ·omega
structure nF where
 nm:List UInt8
 dn:Int
 cv:AV
 cl:List Cl
structure vN where
 nm:List UInt8
 pt:List UInt8
 t0:Int
 t1:Int
 t2:Int
 t3:Int
 s0:List UInt8
 s1:List UInt8
 s2:List UInt8
abbrev se:Type:=List nF
abbrev Ins:Type:=List vN
def sa(p:nF):List AV:=[.str p.nm,.int .i64 p.dn,p.cv]
def C3(x:vN):List AV:=[.str x.nm,.str x.pt,.int .i64 x.t0,.int .i64 x.t1,.int .i64 x.t2,.int .i64 x.t3,.str x.s0,.str x.s1,.str x.s2]
def vZ(l:se):List AV:=(l.map sa).flatten
def FH(l:Ins):List AV:=(l.map C3).flatten
def SV(v:AV)(cs:List AV)(n:Nat):Prop:=v=.aK cs n∨(n=0/\(v=.aH∨v=.dx))
section
variable{v:AV}{cs:List AV}{n:Nat}
def SV.len(h:SV v cs n):kC v=some (n:Int):=by rcases h with rfl|⟨rfl,rfl|rfl⟩<;>rfl
def SV.one(h:SV v cs n):cL v=true:=by rcases h with rfl|⟨rfl,rfl|rfl⟩<;>rfl
def SV.root(h:SV v cs n):ej v=[]:=by rcases h with rfl|⟨rfl,rfl|rfl⟩<;>rfl
def SV.pure(h:SV v cs n):aU v=true:=by rcases h with rfl|⟨rfl,rfl|rfl⟩<;>simp only[aU]
def SV.cells(h:SV v cs n):v.cells=[v]:=by rcases h with rfl|⟨rfl,rfl|rfl⟩<;>rfl
def SV.flat(h:SV v cs n):Flat v:=by rcases h with rfl|⟨rfl,rfl|rfl⟩<;>exact fun _ _=>rfl
def SV.pos(h:SV v cs n)(hn:0<n):v=.aK cs n:=by
 rcases h with h|⟨h,_⟩
 ·exact h
 ·omega
end
def InC.sv{v:AV}{cl:List Cl}(h:InC v cl):SV v (cl.map (·.1)) cl.length:=by
 rcases h with h|⟨h,h2⟩
 ·exact .inl h
 ·exact .inr ⟨by rw[h];rfl,h2⟩
def E4.sv{v:AV}{bG:List I3}(h:E4 v bG):SV v (oC bG) bG.length:=by
 rcases h with h|⟨h,h2⟩
 ·exact .inl h
 ·exact .inr ⟨by rw[h];rfl,h2⟩
structure zn(p:nF):Prop where
 cv:InC p.cv p.cl
 cl:∀c∈p.cl,E4 c.1 c.2
def yF(l:se):∀r∈l.map sa,r.length=3:=by intro r hr;obtain⟨p,_,rfl⟩:=aMr.1 hr;rfl
def qB(l:Ins):∀r∈l.map C3,r.length=9:=by intro r hr;obtain⟨p,_,rfl⟩:=aMr.1 hr;rfl
def DI{l:se}{i:Nat}(hi:i<l.length):fG true 3 (vZ l) (i*3)=some (.agg (sa l[i])):=by
 have h1:(l.map sa)[i]?=some (sa l[i]):=by rw[aMf,aLh hi];rfl
 have h3:=iM (yF l) (j:=i) (by simpa using hi);unfold vZ;rw[jd (s:=3) h3,jz (yF l) h1]
def Na{l:Ins}{i:Nat}(hi:i<l.length):fG true 9 (FH l) (i*9)=some (.agg (C3 l[i])):=by
 have h1:(l.map C3)[i]?=some (C3 l[i]):=by rw[aMf,aLh hi];rfl
 have h3:=iM (qB l) (j:=i) (by simpa using hi);unfold FH;rw[jd (s:=9) h3,jz (qB l) h1]
def cell_of_row{rows:List (List AV)}{s j q:Nat}{r:List AV}{x:AV}(hl:∀r∈rows,r.length=s)(hr:rows[j]?=some r)(hx:r[q]?=some x):rows.flatten[j*s+q]?=some x:=by
 have h1:=jz hl hr;have hq:q<s:=by have h2:=hl r (List.mem_of_getElem? hr);have h3:=(aKB.1 hx).1;omega
 have h2:((rows.flatten.drop (j*s)).take s)[q]?=some x:=by rw[h1];exact hx
 rw[List.getElem?_take_of_lt hq,List.getElem?_drop]at h2;exact h2
def HE{l:se}{i q:Nat}(hi:i<l.length){x:AV}(hx:(sa l[i])[q]?=some x):fG false 1 (vZ l) (i*3+q)=some x:=by
 rw[gI];exact cell_of_row (yF l) (by rw[aMf,aLh hi];rfl) hx
def aAh{l:Ins}{i q:Nat}(hi:i<l.length){x:AV}(hx:(C3 l[i])[q]?=some x):fG false 1 (FH l) (i*9+q)=some x:=by
 rw[gI];exact cell_of_row (qB l) (by rw[aMf,aLh hi];rfl) hx
def Rq(a b:List UInt8):qi E 20 9 (.str a) (.str b)=some (decide (a=b)):=by
 have h:kN E 9=true:=Lr C;unfold kN at h;unfold qi;cases hi:E.ty 9 with
 |none=>rw[hi]at h;cases h
 |some i=>
  rw[hi]at h;obtain⟨cD,jA,jS,jB,jZ,dQ⟩:=i;cases cD<;>first|(cases h;done)|skip
  simp
  first|done|(by_cases e:a=b<;>simp[e])
def lA{α:Type}(p:α->Bool):List α->Nat->Option Nat
 |[],_=>none
 |x::l,i=>if p x then some i else lA p l (i+1)
def tu{α:Type}{p:α->Bool}:∀{l:List α} {i k:Nat},k<l.length->(∀j (hj:j<l.length),j<k->p l[j]=false)->(∀hk:k<l.length,p l[k]=true)->lA p l i=some (i+k)
 |[],_,_,h,_,_=>by cases h
 |x::l,i,0,_,_,h=>by
  have:=h (by simp)
  simp at this;simp[lA,this]
 |x::l,i,k+1,hk,hj,h=>by
  have h0:=hj 0 (by simp) (by omega);simp at h0;have ih:=tu (p:=p) (l:=l) (i:=i+1) (k:=k) (by simpa using hk) (fun j hl hjk=>by have:=hj (j+1) (by simpa using hl) (by omega);simpa using this) (fun Bi=>by have:=h (by simpa using Bi);simpa using this);simp only[lA,h0,ih]
  simp;omega
def tq{α:Type}{p:α->Bool}:∀{l:List α} {i:Nat},(∀x∈l,p x=false)->lA p l i=none
 |[],_,_=>rfl
 |x::l,i,h=>by simp[lA,h x (by simp),tq (l:=l) fun y hy=>h y (by simp[hy])]
def KP(l:se)(s:List UInt8):Option Nat:=lA (fun p=>decide (p.nm=s)) l 0
def JD(l:Ins)(s:List UInt8):Option Nat:=lA (fun p=>decide (p.nm=s)) l 0
def BW{E:Env}{c:Bool}{a b:List UInt8}:cd E c .eql 9 (.str a) (.str b)=some (.bool (decide (a=b))):=by
 show OS .eql a b=_
 simp only[OS];by_cases e:a=b
 ·subst e;simp
 ·simp[e]
def aeL{E:Env}{c:Bool}{a b:List UInt8}:cd E c .neq 9 (.str a) (.str b)=some (.bool (!decide (a=b))):=by
 show OS .neq a b=_
 simp only[OS];by_cases e:a=b
 ·subst e;simp
 ·simp[e]
def D6(v:AV):Prop:=∃cs n,SV v cs n
def D6.facts{v:AV}(h:D6 v):cL v=true/\aU v=true/\ej v=[]/\v.cells=[v]:=by obtain⟨cs,n,h⟩:=h;exact⟨h.one,h.pure,h.root,h.cells⟩
def D6.flat{v:AV}(h:D6 v):Flat v:=by obtain⟨cs,n,h⟩:=h;exact h.flat
def D6.nil:D6 .aH:=⟨[],0,.inr ⟨rfl,.inl rfl⟩⟩
def zn.Ur{p:nF}(h:zn p):D6 p.cv:=⟨_,_,h.cv.sv⟩
def aea{s:List UInt8}:cL (.str s)=true:=rfl
def A7:List AV:=[.str [],.int .i64 0,.aH]
def Q6:nF:=⟨[],0,.aH,[]⟩
def yD(l:se)(s:List UInt8):AV:=match KP l s with
 |some k=>.tuple [.agg (sa (l.getD k Q6)),.bool true]
 |none=>.tuple [.agg A7,.bool false]
def DD{l:se}{s:List UInt8}{i:Nat}(hi:i<l.length)(hq:∀j (hj:j<l.length),j<i->(l[j]).nm≠s)(h:(l[i]).nm=s):yD l s=.tuple [.agg (sa l[i]),.bool true]:=by
 have:=tu (p:=fun p:nF=>decide (p.nm=s)) (l:=l) (i:=0) (k:=i) hi (fun j hj Bh=>bj (hq j hj Bh)) (fun _=>bh h)
 unfold yD KP;rw[this]
 dsimp only
 rw[aLg,aTc,aLh hi];rfl
def wU{l:se}{s:List UInt8}(h:∀j (hj:j<l.length),(l[j]).nm≠s):yD l s=.tuple [.agg A7,.bool false]:=by
 have:=tq (p:=fun p:nF=>decide (p.nm=s)) (l:=l) (i:=0) (fun x hx=>by
  obtain⟨j,hj,rfl⟩:=aWj hx;exact bj (h j hj))
 unfold yD KP;rw[this]
def wO{pv iv:AV}{l:se}{s:List UInt8}(xi:SV pv (vZ l) l.length)(Sj:D6 iv)(vR:∀p∈l,D6 p.cv)(hn:l.length<=4611686018427387904):
  aR E 9 [.agg [pv,iv],.str s]=some (yD l s):=by
 suffices hh:∃r,aR E 9 [.agg [pv,iv],.str s]=some r/\r=yD l s by obtain⟨r,h1,rfl⟩:=hh;exact h1
 have qA:=xi.len;have opv:=xi.one;have rpv:=xi.root;have S8:=Sj.facts;refine pX fn9 ?_;intro ts hl g0 g1;unfold c9;simp only[↓aL,aM,aJ,Tryz.f9,g0];refine cE (fun k_ ts H=>∃i:Nat,k_=(l.length-i:Nat)/\ts.length=28/\gt ts 1=.str s/\gt ts 2=.bI 0 0/\gt ts 4=.bI 1 0/\gt ts 6=.int .i64 (i:Int)/\H=[.cells .live [pv,iv],.cells .live A7]/\(i<=l.length)/\(∀j (hj:j<l.length),j<i->(l[j]).nm≠s)) (l.length) ?_ ?_
 rotate_left
 ·refine⟨0,(by first|omega|rfl|simp),(by simp[bc,hl]),?_⟩;simp only[aZ,hl,aa,ae,g1]
  iterate 5 refine cG ?_
  refine⟨?_,?_⟩
  ·first|omega|trivial
  ·first|(intro j _ hj;omega)|trivial
 clear hl g0 g1 ts;rintro k_ ts H ⟨i,rfl,hl,g1,g2,g4,g6,rfl,hi,hq⟩;refine VS ?_;unfold A7;by_cases hd:i<l.length
 rotate_left
 ·have d1:decide ((i:Int)<(l.length:Int))=false:=bj;simp only[↓aL,aM,aJ,↓reduceIte,aa,ah,ae,hl,g2,g4,g6,qA,d1];rw[wU fun j hj=>hq j hj (by omega)];rfl
 have d1:decide ((i:Int)<(l.length:Int))=true:=bh;have G4:=xi.pos (by omega);subst G4;have ci:=eT (i:=i) (n:=l.length) hd;have mZ:=wz (z:=(i:Int)+1) (m:=i+1);have pa:=DI hd;have pn:=HE (q:=0) hd (x:=.str (l[i]).nm) rfl;rw[Nat.add_zero]at pn;have Eg:=(vR _ (aLr hd)).facts;have Ef:=fun{c:Bool}=>BW (E:=E) (c:=c) (a:=(l[i]).nm) (b:=s)
 by_cases he:(l[i]).nm=s
 ·have hr:=DD hd hq he;rw[bh he]at Ef;generalize l[i]=p at pa pn Eg hr Ef;obtain⟨nm,dn,cv,cl⟩:=p;simp only[sa]at pa hr;simp only[↓aL,aM,aJ,↓reduceIte,aa,ah,ae,hl,g1,g2,g4,g6,qA,ci,pa,pn,Eg,Ef];rw[hr]
 ·rw[bj he]at Ef;have wH:∀j (hj:j<l.length),j<i+1->(l[j]).nm≠s:=by
   intro j hj Bh;rcases aVr (aVs Bh)with h|rfl
   ·exact hq j hj h
   ·exact he
  generalize l[i]=p at pa pn Eg Ef;obtain⟨nm,dn,cv,cl⟩:=p;simp only[↓aL,aM,aJ,↓reduceIte,aa,ah,ae,hl,g1,g2,g6,qA,ci,mZ,pn,Ef];refine bK ?_;refine⟨_,?_,i+1,rfl,(by simp[bc,hl]),?_⟩
  ·first|omega|(simp;omega)
  simp only[aZ,hl,aa,ae,g1,g2,g4]
  iterate 5 refine cG ?_
  refine⟨?_,?_⟩
  ·omega
  ·exact wH
def EP(l:Ins)(s:List UInt8):AV:=match JD l s with
 |some k=>.tuple [.int .i64 (k:Int),.bool true]
 |none=>.tuple [.int .i64 0,.bool false]
def FJ{l:Ins}{s:List UInt8}{i:Nat}(hi:i<l.length)(hq:∀j (hj:j<l.length),j<i->(l[j]).nm≠s)(h:(l[i]).nm=s):EP l s=.tuple [.int .i64 (i:Int),.bool true]:=by
 have:=tu (p:=fun p:vN=>decide (p.nm=s)) (l:=l) (i:=0) (k:=i) hi (fun j hj Bh=>bj (hq j hj Bh)) (fun _=>bh h)
 unfold EP JD;rw[this]
 dsimp only
 rw[aLg]
def zV{l:Ins}{s:List UInt8}(h:∀j (hj:j<l.length),(l[j]).nm≠s):EP l s=.tuple [.int .i64 0,.bool false]:=by
 have:=tq (p:=fun p:vN=>decide (p.nm=s)) (l:=l) (i:=0) (fun x hx=>by
  obtain⟨j,hj,rfl⟩:=aWj hx;exact bj (h j hj))
 unfold EP JD;rw[this]
def AL{pv iv:AV}{l:Ins}{s:List UInt8}(Sj:SV iv (FH l) l.length)(xi:D6 pv)(hn:l.length<=4611686018427387904):
  aR E 11 [.agg [pv,iv],.str s]=some (EP l s):=by
 suffices hh:∃r,aR E 11 [.agg [pv,iv],.str s]=some r/\r=EP l s by obtain⟨r,h1,rfl⟩:=hh;exact h1
 have qA:=Sj.len;have S8:=Sj.one;have riv:=Sj.root;have opv:=xi.facts;refine pX ax9 ?_;intro ts hl g0 g1;unfold c11;simp only[↓aL,aM,Tryz.f11,g0];refine cE (fun k_ ts H=>∃i:Nat,k_=(l.length-i:Nat)/\ts.length=23/\gt ts 1=.str s/\gt ts 2=.bI 0 0/\gt ts 6=.int .i64 (i:Int)/\H=[.cells .live [pv,iv]]/\(i<=l.length)/\(∀j (hj:j<l.length),j<i->(l[j]).nm≠s)) (l.length) ?_ ?_
 rotate_left
 ·refine⟨0,(by first|omega|rfl|simp),(by simp[bc,hl]),?_⟩;simp only[aZ,hl,aa,ae,g1]
  iterate 4 refine cG ?_
  refine⟨?_,?_⟩
  ·first|omega|trivial
  ·first|(intro j _ hj;omega)|trivial
 clear hl g0 g1 ts;rintro k_ ts H ⟨i,rfl,hl,g1,g2,g6,rfl,hi,hq⟩;refine VS ?_;by_cases hd:i<l.length
 rotate_left
 ·have d1:decide ((i:Int)<(l.length:Int))=false:=bj;simp only[↓aL,aM,aJ,↓reduceIte,aa,ae,hl,g2,g6,qA,d1];rw[zV fun j hj=>hq j hj (by omega)]
 have d1:decide ((i:Int)<(l.length:Int))=true:=bh;have G4:=Sj.pos (by omega);subst G4;have ci:=eT (i:=i) (n:=l.length) hd;have mZ:=wz (z:=(i:Int)+1) (m:=i+1);have pn:=aAh (q:=0) hd (x:=.str (l[i]).nm) rfl;rw[Nat.add_zero]at pn;have Ef:=fun{c:Bool}=>BW (E:=E) (c:=c) (a:=(l[i]).nm) (b:=s)
 by_cases he:(l[i]).nm=s
 ·have hr:=FJ hd hq he;rw[bh he]at Ef;simp only[↓aL,aM,aJ,↓reduceIte,aa,ae,hl,g1,g2,g6,qA,ci,pn,Ef];rw[hr]
 ·rw[bj he]at Ef;have wH:∀j (hj:j<l.length),j<i+1->(l[j]).nm≠s:=by
   intro j hj Bh;rcases aVr (aVs Bh)with h|rfl
   ·exact hq j hj h
   ·exact he
  simp only[↓aL,aM,aJ,↓reduceIte,aa,ae,hl,g1,g2,g6,qA,ci,mZ,pn,Ef];refine bK ?_;refine⟨_,?_,i+1,rfl,(by simp[bc,hl]),?_⟩
  ·first|omega|(simp;omega)
  simp only[aZ,hl,aa,ae,g1,g2]
  iterate 4 refine cG ?_
  refine⟨?_,?_⟩
  ·omega
  ·exact wH
def yx(ks:List (List UInt8)):ct:=.map .live (ks.map AV.str) (ks.map fun _=>AV.bool true)
def gP(ks:List (List UInt8))(s:List UInt8):Int:=if wM s=true then(if s∈ks then 9 else 0)else 11
def CN{H:Hp}{b:Nat}{ks:List (List UInt8)}{s:List UInt8}(hb:H[b]?=some (yx ks))(hs:s.length<=4611686018427387904):
  cR E 32 [.eS b,.str s] H=some (.int .i64 (gP ks s),if gP ks s=0 then cJ H b (yx (ks++[s]))else H):=by
 suffices hh:∃r H',cR E 32 [.eS b,.str s] H=some (r,H')/\(r=.int .i64 (gP ks s)/\H'=if gP ks s=0 then cJ H b (yx (ks++[s]))else H)by obtain⟨r,H',h1,rfl,rfl⟩:=hh;exact h1
 have yZ:=JF (E:=E) hs;have Qh:pJ E 84 9 4=true:=BN C;have heq:=fun a b=>Rq (E:=E) a b
 refine gi2 (fV C) (by rw[C.fn];exact ayi) (by decide) ?_;intro ts hl g0 g1;unfold c32;unfold gP;by_cases h1:wM s=true
 rotate_left
 ·rw[if_neg h1];have h1':wM s=false:=by simpa using h1
  rw[h1']at yZ;simp only[↓aL,aM,↓aT,aJ,↓reduceIte,aa,ae,Tryz.f32,aF,hl,g1,yZ]
 rw[if_pos h1];rw[h1]at yZ;unfold yx at hb;by_cases h2:s∈ks
 ·rw[if_pos h2];obtain⟨q,hq,yk⟩:=rq (enc:=AV.str) (ok:=false) Qh heq hb (by simp) h2;rw[show((ks.map fun _=>AV.bool true).getD q bS)=.bool true by simp[aTc,hq]]at yk;simp only[aK4,if_false]at yk;simp only[↓aL,aM,↓aT,aJ,↓reduceIte,aa,ae,Tryz.f32,aF,hl,g0,g1,yZ,yk]
 ·rw[if_neg h2];have yk:=uG (enc:=AV.str) (ok:=false) Qh heq hb (by simp) h2 (Ig (E:=E));have hup:=wZ (enc:=AV.str) (v:=.bool true) Qh heq hb (by simp) h2;simp only[aK4,if_false]at yk;simp only[↓aL,aM,↓aT,aJ,↓reduceIte,aa,ae,Tryz.f32,hl,g0,g1,yZ,yk,hup];simp[yx]
def Jy{x:vN}{s:List UInt8}:aR E 31 [.agg (C3 x),.cU [.str s] 0]=some (.bool (decide (x.nm=s))):=by
 suffices hh:∃r,aR E 31 [.agg (C3 x),.cU [.str s] 0]=some r/\r=.bool (decide (x.nm=s))by obtain⟨r,h1,rfl⟩:=hh;exact h1
 have Ef:=fun{c:Bool}=>BW (E:=E) (c:=c) (a:=x.nm) (b:=s)
 refine pX ayh ?_;intro ts hl g0 g1;unfold c31;unfold C3 at g0;simp only[↓aL,aM,aJ,aa,ae,Tryz.f31,hl,g0,g1,Ef]
def IG{pv iv:AV}{l:Ins}{s:List UInt8}(Sj:SV iv (FH l) l.length)(xi:D6 pv)(hn:l.length<1000000000):
  aR E 10 [.agg [pv,iv],.str s]=some (EP l s):=by
 suffices hh:∃r,aR E 10 [.agg [pv,iv],.str s]=some r/\r=EP l s by obtain⟨r,h1,rfl⟩:=hh;exact h1
 have S8:=Sj.one;have LR:=Sj.pure;have opv:=xi.facts;obtain⟨z,hz,C2⟩:∃z:Int,aR E 30 [iv,.func 31 [] [.cU [.str s] 0]]=some (.int .i64 z)/\((z= -1/\∀j (hj:j<l.length),(l[j]).nm≠s)∨∃k,∃hk:k<l.length,z=(k:Int)/\(l[k]).nm=s/\∀j (hj:j<l.length),j<k->(l[j]).nm≠s):=by
  rcases Sj with rfl|⟨h0,h⟩
  ·obtain⟨r,hr,z,rfl,h⟩:=ud (E:=E) .n (n:=l.length) (g:=31) (cs:=FH l) (caps:=[.cU [.str s] 0]) (el:=fun i=>.agg (C3 (l.getD i ⟨[],[],0,0,0,0,[],[],[]⟩))) (p:=fun i=>decide ((l.getD i ⟨[],[],0,0,0,0,[],[],[]⟩).nm=s)) hn (bM C) (by
     unfold FH;clear hn S8 LR;induction l with
     |nil=>rfl
     |cons x l ih=>rw[List.map_cons,List.flatten_cons,iB,ih];rfl) (by simp[aV,aU])
    (fun i hi=>by rw[Na hi,aTc,aLh hi];rfl) (fun i hi=>rfl) (fun i hi=>Jy)
   refine⟨z,hr,?_⟩;rcases h with⟨h1,h2⟩|⟨k,hk,h1,h2,h3⟩
   ·refine .inl ⟨h1,fun j hj e=>?_⟩
    have:=h2 j hj
    rw[aTc,aLh hj]at this;simp at this;exact this e
   ·refine .inr ⟨k,hk,h1,?_,fun j hj hjk e=>?_⟩
    ·rw[aTc,aLh hk]at h2;simpa using h2
    ·have:=h3 j hjk
     rw[aTc,aLh hj]at this;simp at this;exact this e
  ·refine⟨-1,?_,.inl ⟨rfl,fun j hj=>by omega⟩⟩;have hl0:l.length=0:=h0;rcases h with rfl|rfl<;>exact yR .n rfl
 obtain⟨u,fY⟩:∃u,qR false [.cells .live [pv,iv],.cells .live [.str s]] [iv,.func 31 [] [.bI 1 0]]=some ([iv,.func 31 [] [.cU [.str s] 0]],u):=
  ⟨_,k8 (m:=3) (eu.cons ((Fr.flat Sj.flat).up (by omega)) (eu.cons (Fr.func (eu.cons (Fr.hp (st:=.live) rfl (by decide) (eu.flat (fun c hc=>by simp only[aMp,aVd,or_false]at hc;subst hc;exact mL))) eu.nil)) eu.nil)) (by omega) (by simp[aV,aU])⟩
 refine pX ax8 ?_;intro ts hl g0 g1;unfold c10;rcases C2 with⟨rfl,MW⟩|⟨k,hk,rfl,h1,h2⟩
 ·have mx:∀{H:Hp} {aP:Nat},bB E H aP .max [3,3] [.int .i64 (-1),.int .i64 0]=some (.int .i64 0,[]):=fun{H aP}=>rfl
  simp only[↓aL,aM,↓aT,aJ,aa,ae,Tryz.f10,aw,aB,hl,g0,g1,LR,fY,hz,mx];rw[zV MW]
 ·have mx:∀{H:Hp} {aP:Nat},bB E H aP .max [3,3] [.int .i64 (k:Int),.int .i64 0]=some (.int .i64 (k:Int),[]):=fun{H aP}=>by
   have:=Vd (E:=E) (H:=H) (aP:=aP) (a:=k) (b:=0)
   simpa using this
  have Iq:decide ((k:Int)≥0)=true:=bh;simp only[↓aL,aM,↓aT,aJ,aa,ae,Tryz.f10,hl,g0,g1,LR,fY,hz,mx];rw[FJ hk h2 h1]
end Go.Proofs.YtmkjgfnicfpjpaaGreatDoor
