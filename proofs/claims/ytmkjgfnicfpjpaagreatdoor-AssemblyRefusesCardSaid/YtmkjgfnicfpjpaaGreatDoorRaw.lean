/- Lemmas for AssemblyRefuses; no condition. -/
import Derived.Test.YtmkjgfnicfpjpaaGreatDoorRav
set_option linter.all false
set_option maxHeartbeats 100000000
set_option maxRecDepth 100000
noncomputable section
open List renaming getElem?_append_left->aOr,length_append->aL9,getElem?_eq_getElem->aL6,getElem?_set_ne->aOj,append_assoc->aUi,getD_eq_getElem?_getD->aT1,getElem?_eq_some_iff->aLq,getElem?_set_self->aOl,getElem_mem->aMg,getElem?_map->aM4,not_mem_nil->aV0,mem_map->aNg,cons_append->aRk,set_append_left->aWg,mem_cons->aNe,getElem_of_mem->aW2
open Nat renaming lt_or_eq_of_le->aUh,le_of_lt_succ->aUl,zero_add->aL5,reduceLT->aa,reduceEqDiff->ae,reduceAdd->ah,reduceLeDiff->ai,reduceMul->ak
open Bool renaming false_eq_true->aLT
open Int renaming reduceLE->an,reduceLT->aq,reduceToNat->ar,reduceAdd->aA,reduceNeg->aB,reduceBNe->aE,reduceEq->aF
namespace Go.Proofs.YtmkjgfnicfpjpaaGreatDoor
open Go Dv Dv.dk
variable{E:Env}[C:Ctx E]
structure S3(c:List AV)(va fa ea:AV):Prop where
 eq:c=[va,fa,ea]
 one:cN va=true/\cN fa=true/\cN ea=true
 pure:aU va=true/\aU fa=true/\aU ea=true
 flat:∀x∈[va,fa,ea],Flat x
def q9.s3{s:Sh}(h:q9 s):∃va fa ea,S3 (qq s) va fa ea:=by
 refine⟨_,_,_,rfl,⟨mE,mE,mE⟩,⟨qR (Al h.vs),qR (CI fun f hf=>(h.fs f hf).ok),qR (Cw _)⟩,?_⟩;intro x hx;simp only[aNe,aV0,or_false]at hx;rcases hx with rfl|rfl|rfl<;>exact yR
def RM{a b:Sh}(ha:q9 a)(hb:q9 b):aP E 129 [.agg (qq a),.agg (qq b)]=some (.func 172 [] [.cS (qq a) 0,.cS (qq b) 0]):=by
 suffices hh:∃r,aP E 129 [.agg (qq a),.agg (qq b)]=some r/\r=.func 172 [] [.cS (qq a) 0,.cS (qq b) 0]by obtain⟨r,h1,rfl⟩:=hh;exact h1
 obtain⟨va,fa,ea,⟨e1,o1,p1,f1⟩⟩:=ha.s3;obtain⟨vb,fb,eb,⟨e2,o2,p2,f2⟩⟩:=hb.s3;rw[e1,e2];obtain⟨u,gH⟩:∃u,sI false [.cells .live [va,fa,ea],.cells .live [vb,fb,eb]] [.func 172 [] [.bK 0 0,.bK 1 0]]=some ([.func 172 [] [.cS [va,fa,ea] 0,.cS [vb,fb,eb] 0]],u):=
  ⟨_,nk (m:=3) (ft.cons (Fr.func (ft.cons (Fr.hp (st:=.live) rfl (by decide) (ft.flat f1)) (ft.cons (Fr.hp (st:=.live) rfl (by decide) (ft.flat f2)) ft.nil))) ft.nil) (by omega) (by simp[aV,aU])⟩
 refine oA aq0 ?_;intro ts hl g0 g1;unfold aox;simp only[↓aL,aM,aa,ae,Tryz.f129,hl,g0,g1,Cz,gH]
structure PI(L:Nat)(lp:cE)(a b:List AV)(H:Hp):Prop where
 h0:H[0]?=some (.cells .live a)
 h1:H[1]?=some (.cells .live b)
 h2:∃t,H[2]?=some (.cells .live [.bool t])
 hL:H[L]?=some lp
 lt:L<H.length
def PI.app{L:Nat}{lp:cE}{a b:List AV}{H T:Hp}(h:PI L lp a b H):PI L lp a b (H++T):=by
 have l0:=(aLq.1 h.h0).1;have l1:=(aLq.1 h.h1).1;obtain⟨t,h2⟩:=h.h2;have l2:=(aLq.1 h2).1;exact⟨by rw[aOr l0];exact h.h0,by rw[aOr l1];exact h.h1,⟨t,by rw[aOr l2];exact h2⟩,by rw[aOr h.lt];exact h.hL,by rw[aL9];have:=h.lt;omega⟩
def DH{a b:Sh}(ha:q9 a)(hb:q9 b):∃r,aP E 94 [.agg (qq a),.agg (qq b)]=some r/\∃t:Bool,r=.bool t:=by
 have Ul:=RM (E:=E) ha hb;have as4:=fun{n:List AV} (h:gL 100000 n)=>Ax (E:=E) ha h
 have as5:=fun{n:List AV} (h:gL 100000 n)=>Ax (E:=E) hb h
 obtain⟨va,fa,ea,⟨e1,o1,p1,f1⟩⟩:=ha.s3;obtain⟨vb,fb,eb,⟨e2,o2,p2,f2⟩⟩:=hb.s3;rw[e1,e2]at Ul;rw[e1]at as4;rw[e2]at as5;rw[e1,e2];refine oA ayX ?_;intro ts hl g0 g1;unfold c94;simp only[↓aL,aM,↓aS,aJ,↓reduceIte,aa,ah,ae,Tryz.f94,hl,g0,g1,p1,p2,Ul];obtain⟨tsO,rfl⟩:∃tsO,tsO=ts:=⟨ts,rfl⟩;have LO:=hl;clear hl g0 g1;refine xJ (f:=172) (first:=[]) (cap:=[.cS [va,fa,ea] 0,.cS [vb,fb,eb] 0]) (by simp only[aY,aQ,LO,aa]) (by rw[C.fn];exact arl) ?_;intro ac bd tr CV Su Na ts Bi;have tl:tr.length=36:=by rw[Na];simp only[bc,LO]
 have t2:gt tr 2=.bK 0 0:=by rw[Na];simp only[aY,LO,aa,ae]
 have t3:gt tr 3=.bK 1 0:=by rw[Na];simp only[aY,LO,aa,ae]
 have t4:gt tr 4=.bK 2 0:=by rw[Na];simp only[aY,LO,aa,ae]
 have key:∀(H:Hp) (n:List AV),gL 100000 n->PI 3 (.loop .ready none tr [13] ac bd) [va,fa,ea] [vb,fb,eb] H->
   ∃r H',nG E 3 [.agg n] H=some (r,H')/\((r=.bool true/\PI 3 (.loop .ready none tr [13] ac bd) [va,fa,ea] [vb,fb,eb] H'/\∀k,k<H.length->k≠3->H'[k]?=H[k]?)∨(r=.bool false/\H'[3]?=some (.loop .done (some .ret) tr [13] ac bd)/\H'[2]?=some (.cells .live [.bool false]))):=by
  intro H n hn hP;refine D6 (G:=fun r H'=>(r=.bool true/\PI 3 (.loop .ready none tr [13] ac bd) [va,fa,ea] [vb,fb,eb] H'/\∀k,k<H.length->k≠3->H'[k]?=H[k]?)∨(r=.bool false/\H'[3]?=some (.loop .done (some .ret) tr [13] ac bd)/\H'[2]?=some (.cells .live [.bool false]))) hP.hL (args:=[.agg n]) (ts':=tr.set 13 (.agg n)) rfl ?_;obtain⟨na,hna,hnb⟩:=hn.ex;obtain⟨jq,jm,jr,ja,jt,jb,ju,jc,jv,jn,jw,jo,en,-,-,-,Pn,On⟩:=dC hna;injection en with en
  subst en;obtain⟨tz,yp⟩:∃tz,tz=tr.set 13 (.agg [.bool jq,jm,.bool jr,ja,.bool jt,jb,.bool ju,jc,.bool jv,jn,.bool jw,jo]):=⟨_,rfl⟩;rw[<-yp];have hl:tz.length=36:=by rw[yp];simp only[List.length_set,tl]
  have g2:gt tz 2=.bK 0 0:=by rw[yp];simp only[aZ,ne_eq,ae,not_false_eq_true,t2]
  have g3:gt tz 3=.bK 1 0:=by rw[yp];simp only[aZ,ne_eq,ae,not_false_eq_true,t3]
  have g4:gt tz 4=.bK 2 0:=by rw[yp];simp only[aZ,ne_eq,ae,not_false_eq_true,t4]
  have g13:gt tz 13=.agg [.bool jq,jm,.bool jr,ja,.bool jt,jb,.bool ju,jc,.bool jv,jn,.bool jw,jo]:=by rw[yp];simp only[aN,tl,aa]
  rw[CV];refine VS ?_;simp only[↓aL,aM,aJ,ct,↓reduceIte,aa,ah,ae,hl,g13,On];refine⟨none,tr,[13],ac,bd,hP.app.hL,?_⟩;obtain⟨HB,hHB⟩:∃HB,HB=H.set 3 (.loop .busy none tr [13] ac bd):=⟨_,rfl⟩;rw[aWg _ _ hP.lt,<-hHB,Su];have hBl:HB.length=H.length:=by rw[hHB];simp
  have Xb:∀k,k≠3->HB[k]?=H[k]?:=fun k hk=>by rw[hHB,aOj (Ne.symm hk)]
  have hBL:HB[3]?=some (.loop .busy none tr [13] ac bd):=by rw[hHB,aOl hP.lt]
  have eh:=hP.lt;obtain⟨tt,h2⟩:=hP.h2;have b0:HB[0]?=some (.cells .live [va,fa,ea]):=by rw[Xb 0 (by omega)];exact hP.h0
  have b1:HB[1]?=some (.cells .live [vb,fb,eb]):=by rw[Xb 1 (by omega)];exact hP.h1
  have b2:HB[2]?=some (.cells .live [.bool tt]):=by rw[Xb 2 (by omega)];exact h2
  have l0:∀{T:Hp},fE 3 (HB++T) 0 0=some (.agg [va,fa,ea]):=by intro T;rw[dY,aOr (by omega),b0];rfl
  have l1:∀{T:Hp},fE 3 (HB++T) 1 0=some (.agg [vb,fb,eb]):=by intro T;rw[dY,aOr (by omega),b1];rfl
  obtain⟨r1,hr1,lo1,hi1,rfl,Sw,atf⟩:=as4 hn;obtain⟨r2,Ec,lo2,hi2,rfl,atr,atg⟩:=as5 hn;obtain⟨q1,LR,bq1⟩:=Sw.ex;obtain⟨q2,XD,bq2⟩:=atf.ex;obtain⟨q3,hq3,bq3⟩:=atr.ex;obtain⟨q4,hq4,bq4⟩:=atg.ex;have GX:=gS (E:=E) LR hq4 bq1 bq4;have Jl:=gS (E:=E) hq3 XD bq3 bq2;obtain⟨an0,am0,an1,am1,rfl,Pa⟩:=Sw.cells;obtain⟨bn0,bm0,bn1,bm1,rfl,Pb⟩:=atf.cells;obtain⟨cn0,cm0,cn1,cm1,rfl,Pc⟩:=atr.cells;obtain⟨yY,yW,yZ,yX,rfl,Pd⟩:=atg.cells;generalize qy q1 q4=z1 at GX;generalize qy q3 q2=z2 at Jl;obtain⟨HF,hHF⟩:∃HF,HF=HB.set 2 (.cells .live [.bool false]):=⟨_,rfl⟩;have sF:∀{T:Hp},iZ 1 [.bool false] (HB++T) 2 0=some (.cells .live [.bool false]):=by intro T;rw[eT,aOr (by omega),b2];rfl
  have pF:∀{T:Hp},cO (HB++T) 2 (.cells .live [.bool false])=HF++T:=by intro T;rw[dT (by rw[aL9];omega),aWg _ _ (by omega),hHF]
  have hFl:HF.length=HB.length:=by rw[hHF];simp
  have hF2:HF[2]?=some (.cells .live [.bool false]):=by rw[hHF,aOl (by omega)]
  have hF3:HF[3]?=some (.loop .busy none tr [13] ac bd):=by rw[hHF,aOj (by omega)];exact hBL
  by_cases Uu:z1≥0
  ·have d1:decide (z1≥0)=true:=bj Uu;simp only[↓aL,aM,↓aS,aJ,ct,↓reduceIte,aa,ah,ae,hl,g2,g3,g4,<-hBl,l0,l1,hr1,Ec,GX,d1,sF,pF,Pn,Pa,Pb,Pc,Pd,p1,p2,aUi,aL9];refine⟨.busy,none,tr,[13],ac,bd,?_,.inr ⟨rfl,?_,?_⟩⟩
   ·rw[aOr (by omega)];exact hF3
   ·rw[aOl (by rw[aL9];omega),CV,Su]
   ·rw[aOj (by omega),aOr (by omega)];exact hF2
  have d1:decide (z1≥0)=false:=bh Uu;by_cases Uv:z2≥0
  ·have d2:decide (z2≥0)=true:=bj Uv;simp only[↓aL,aM,↓aS,aJ,ct,↓reduceIte,aa,ah,ae,hl,g2,g3,g4,<-hBl,l0,l1,hr1,Ec,GX,Jl,d1,d2,sF,pF,Pn,Pa,Pb,Pc,Pd,p1,p2,aUi,aL9];refine⟨.busy,none,tr,[13],ac,bd,?_,.inr ⟨rfl,?_,?_⟩⟩
   ·rw[aOr (by omega)];exact hF3
   ·rw[aOl (by rw[aL9];omega),CV,Su]
   ·rw[aOj (by omega),aOr (by omega)];exact hF2
  have d2:decide (z2≥0)=false:=bh Uv;simp only[↓aL,aM,↓aS,aJ,ct,↓reduceIte,aa,ah,ae,hl,g2,g3,<-hBl,l0,l1,hr1,Ec,GX,Jl,d1,d2,Pn,Pa,Pb,Pc,Pd,p1,p2,aUi,aL9];refine⟨.busy,none,tr,[13],ac,bd,?_,.inl ⟨rfl,⟨?_,?_,⟨tt,?_⟩,?_,?_⟩,fun k hk hk3=>?_⟩⟩
  ·rw[aOr (by omega)];exact hBL
  ·rw[aOj (by omega),aOr (by omega)];exact b0
  ·rw[aOj (by omega),aOr (by omega)];exact b1
  ·rw[aOj (by omega),aOr (by omega)];exact b2
  ·rw[aOl (by rw[aL9];omega),CV,Su]
  ·rw[List.length_set,aL9];omega
  ·rw[aOj (by omega),aOr (by omega),Xb k hk3]
 obtain⟨HS,Sq⟩:∃HS,HS=[cE.cells .live [va,fa,ea],.cells .live [vb,fb,eb],.cells .live [.bool false]]++[.loop .ready none tr (#[13]:Array Nat).toList ac bd]:=⟨_,rfl⟩;have hP:PI 3 (.loop .ready none tr [13] ac bd) [va,fa,ea] [vb,fb,eb] HS:=by rw[Sq];exact⟨rfl,rfl,⟨_,rfl⟩,rfl,by simp⟩
 rw[<-Sq];have hll:([cE.cells .live [va,fa,ea],.cells .live [vb,fb,eb],.cells .live [.bool false]]:Hp).length=3:=rfl;rw[hll]at Bi⊢;have hl:ts.length=63:=by rw[Bi];rfl
 have g0:gt ts 0=.yield 3:=by rw[Bi];rfl
 have g1:gt ts 1=.cS [va,fa,ea] 0:=by rw[Bi];rfl
 have g2:gt ts 2=.cS [vb,fb,eb] 0:=by rw[Bi];rfl
 clear Bi Sq hll;have atx:∀(Q:Hp->Prop),(∀H',H'[3]?=some (.loop .done (some .ret) tr [13] ac bd)->H'[2]?=some (.cells .live [.bool false])->Q H')->(∀H',PI 3 (.loop .ready none tr [13] ac bd) [va,fa,ea] [vb,fb,eb] H'->Q H')->V E aip ts HS (o6 E [] fun x H2=>Q H2):=by
  intro Q LR XD;unfold aip;refine VS ?_;simp only[↓aL,aM,aJ,↓reduceIte,aa,ah,ak,ae,Tryz.f172,ai,hl,g1,g2];refine cC (fun k_ ts H=>∃i:Nat,∃H1,k_=(2-i:Nat)/\ts.length=63/\gt ts 0=.yield 3/\gt ts 1=.cS [va,fa,ea] 0/\gt ts 2=.cS [vb,fb,eb] 0/\gt ts 16=.agg [va,fa,ea,vb,fb,eb]/\gt ts 17=.int .i64 (i:Int)/\H=H1/\(i<=2)/\(PI 3 (.loop .ready none tr [13] ac bd) [va,fa,ea] [vb,fb,eb] H1)) (2) ?_ ?_
  rotate_left
  ·refine⟨0,HS,(by first|omega|rfl|simp),(by simp[bc,hl]),?_⟩;simp only[aY,hl,aa,ae,g0,g1,g2]
   iterate 6 refine cI ?_
   refine⟨?_,?_⟩
   ·first|omega|trivial
   ·first|exact hP|trivial
  clear hl g0 g1 g2 ts;rintro k_ ts H ⟨i,H1,rfl,hl,g0,g1,g2,g16,g17,rfl,hi,hP⟩;refine VS ?_;by_cases hd:i<2
  ·have d1:decide ((i:Int)<2)=true:=bj;have lP:=wz (z:=(i:Int)+1) (m:=i+1);obtain⟨s,hs,vv,ff,ee,⟨es,oS,pS,fS⟩,hdt⟩:∃s:Sh,q9 s/\∃vv ff ee,S3 (qq s) vv ff ee/\List.take 3 (List.drop (i*3) [va,fa,ea,vb,fb,eb])=[vv,ff,ee]:=by
    rcases(by omega:i=0∨i=1)with rfl|rfl
    ·exact⟨a,ha,va,fa,ea,⟨e1,o1,p1,f1⟩,rfl⟩
    ·exact⟨b,hb,vb,fb,eb,⟨e2,o2,p2,f2⟩,rfl⟩
   have ci:=eP (i:=i) (n:=2) hd;rw[show((2:Nat):Int)=2 from rfl]at ci;have ci3:(i*3<=3)=True:=eq_true (by omega);have hff:ff=lW (xi s.fs) s.fs.length:=by unfold qq at es;injection es with _ es;injection es with es _;exact es.symm
   have hlf:lH ff=some ((s.fs.length:Nat):Int):=by rw[hff];exact nV
   simp only[↓aL,aM,aJ,ct,↓reduceIte,aa,ah,ae,ai,hl,g16,g17,ci,ci3,hdt,hlf,oS,aL9];have hP1:PI 3 (.loop .ready none tr [13] ac bd) [va,fa,ea] [vb,fb,eb] (H++[.cells .live [vv,ff,ee]]):=hP.app;refine cC (fun k_ ts H=>∃j:Nat,∃H1,k_=(s.fs.length-j:Nat)/\ts.length=63/\gt ts 0=.yield 3/\gt ts 1=.cS [va,fa,ea] 0/\gt ts 2=.cS [vb,fb,eb] 0/\gt ts 16=.agg [va,fa,ea,vb,fb,eb]/\gt ts 17=.int .i64 (i:Int)/\gt ts 21=ff/\gt ts 22=.int .i64 (s.fs.length:Int)/\gt ts 23=.int .i64 (j:Int)/\H=H1/\(j<=s.fs.length)/\(PI 3 (.loop .ready none tr [13] ac bd) [va,fa,ea] [vb,fb,eb] H1)) (s.fs.length) ?_ ?_
   rotate_left
   ·refine⟨0,(H++[.cells .live [vv,ff,ee]]),(by first|omega|rfl|simp),(by simp[bc,hl]),?_⟩;simp only[aY,hl,aa,ae,g0,g1,g2,g16,g17]
    iterate 9 refine cI ?_
    refine⟨?_,?_⟩
    ·first|omega|trivial
    ·first|exact hP1|trivial
   clear hl g0 g1 g2 g16 g17 ts;rintro k_ ts H ⟨j,H1,rfl,hl,g0,g1,g2,g16,g17,g21,g22,g23,rfl,hj,hP⟩;refine VS ?_;by_cases lN:j<s.fs.length
   ·have d2:decide ((j:Int)<(s.fs.length:Int))=true:=bj;have azC:AV.aK (xi s.fs) s.fs.length=ff:=by rw[hff];exact(gf).symm
    rw[<-azC]at g21;have cj:=eP (i:=j) (n:=s.fs.length) lN;have f56:=hs.f56;have wj1:=wz (z:=(j:Int)+1) (m:=j+1);have pa:=agd (fun f hf=>(hs.fs f hf).ok) lN;have EC:=hs.fs _ (aMg lN);generalize s.fs[j]=f at pa EC;obtain⟨n,o,hf1,hn⟩:=EC.nrm;have K17:=EC.ok.k17;have Ko:=EC.ok.ko;have Kt:(Ew f).take 12=n:=by unfold Ew;rw[hf1,aUi,List.take_left' hn.len]
    generalize Ew f=K at pa K17 Ko Kt;obtain⟨r,H2,hy,hG⟩:=key (H++[.cells .live K]) n (hn.mono (by omega)) hP.app;rcases hG with⟨rfl,hP2,-⟩|⟨rfl,hL2,hF2⟩
    ·simp only[↓aL,aM,aJ,ct,↓reduceIte,aa,ah,ae,ai,hl,g0,g21,g22,g23,cj,wj1,pa,K17,Ko,Kt,hy];refine bI ?_;refine⟨_,?_,j+1,H2,rfl,(by simp[bc,hl]),?_⟩
     ·first|omega|(simp;omega)
     simp only[aY,hl,aa,ae,g0,g1,g2,g16,g17,g21,g22]
     iterate 9 refine cI ?_
     refine⟨?_,?_⟩
     ·omega
     ·exact hP2
    ·simp only[↓aL,aM,aJ,ct,↓reduceIte,aa,ah,ae,ai,hl,g0,g21,g22,g23,cj,pa,K17,Ko,Kt,hy];exact LR _ hL2 hF2
   have d2:decide ((j:Int)<(s.fs.length:Int))=false:=bh (by omega);simp only[↓aL,aM,↓reduceIte,aa,ae,hl,g17,g22,g23,d2,lP];refine bI ?_;refine⟨_,?_,i+1,H,rfl,(by simp[bc,hl]),?_⟩
   ·first|omega|(simp;omega)
   simp only[aY,hl,aa,ae,g0,g1,g2,g16]
   iterate 6 refine cI ?_
   refine⟨?_,?_⟩
   ·omega
   ·exact hP
  have d1:decide ((i:Int)<2)=false:=bh (by omega);obtain⟨r1,hr1,l1,rfl,Uo,aDY⟩:=r8 (E:=E) hb;obtain⟨r2,Ec,l2,rfl,yk,aDZ⟩:=r8 (E:=E) ha;rw[e2]at hr1;rw[e1]at Ec;have hn1:lH (lW l1.flatten l1.length)=some ((l1.length:Nat):Int):=nV;have zO:lH (lW l2.flatten l2.length)=some ((l2.length:Nat):Int):=nV;obtain⟨v1,XN⟩:∃v1,v1=lW l1.flatten l1.length:=⟨_,rfl⟩;obtain⟨v2,G5⟩:∃v2,v2=lW l2.flatten l2.length:=⟨_,rfl⟩;rw[<-XN]at hr1 hn1;rw[<-G5]at Ec zO;simp only[↓aL,aM,↓aS,aJ,↓reduceIte,aa,ah,ae,hl,g1,g2,g17,d1,hr1,Ec,zO,p1,p2];refine cC (fun k_ ts H=>∃k:Nat,∃H1,k_=(l2.length-k:Nat)/\ts.length=63/\gt ts 0=.yield 3/\gt ts 8=v1/\gt ts 37=v2/\gt ts 38=.int .i64 (l2.length:Int)/\gt ts 39=.int .i64 (k:Int)/\H=H1/\(k<=l2.length)/\(PI 3 (.loop .ready none tr [13] ac bd) [va,fa,ea] [vb,fb,eb] H1)) (l2.length) ?_ ?_
  rotate_left
  ·refine⟨0,H,(by first|omega|rfl|simp),(by simp[bc,hl]),?_⟩;simp only[aY,hl,aa,ae,g0]
   iterate 6 refine cI ?_
   refine⟨?_,?_⟩
   ·first|omega|trivial
   ·first|exact hP|trivial
  clear hl g0 g1 g2 g16 g17 ts;rintro k_ ts H ⟨k,H1,rfl,hl,g0,g8,g37,CR,BE,rfl,hk,hP⟩;refine VS ?_;by_cases hd:k<l2.length
  rotate_left
  ·have d1:decide ((k:Int)<(l2.length:Int))=false:=bh (by omega);simp only[↓aL,aM,↓reduceIte,aa,hl,CR,BE,d1];exact XD _ hP
  have d1:decide ((k:Int)<(l2.length:Int))=true:=bj;have hx2:AV.aK l2.flatten l2.length=v2:=by rw[G5];exact(gf).symm
  rw[<-hx2]at g37;have ck:=eP (i:=k) (n:=l2.length) hd;have qm:=wz (z:=(k:Int)+1) (m:=k+1);have pk:=rU yk hd;have pf:=yk _ (aMg hd);generalize l2[k]=row at pk pf;obtain⟨a2,CU,vN⟩:=pf.ex;obtain⟨xt,wk,xu,wo,zg,y9,zj,za,zk,zd,zm,zf,ex,-,-,-,Px,Ox⟩:=dC CU;injection ex with ex
  subst ex;simp only[↓aL,aM,aJ,ct,↓reduceIte,aa,ah,ae,hl,g8,g37,CR,BE,ck,pk,hn1,Ox];obtain⟨HO,rfl⟩:∃HO,HO=H:=⟨H,rfl⟩;have aEe:=pf;refine cC (fun k_ ts H=>∃m:Nat,∃H1,k_=(l1.length-m:Nat)/\ts.length=63/\gt ts 0=.yield 3/\gt ts 8=v1/\gt ts 10=.bK HO.length 0/\gt ts 37=.aK l2.flatten l2.length/\gt ts 38=.int .i64 (l2.length:Int)/\gt ts 39=.int .i64 (k:Int)/\gt ts 43=v1/\gt ts 44=.int .i64 (l1.length:Int)/\gt ts 45=.int .i64 (m:Int)/\H=H1/\(m<=l1.length)/\(PI 3 (.loop .ready none tr [13] ac bd) [va,fa,ea] [vb,fb,eb] H1)/\(H1[HO.length]?=some (.cells .live [.bool xt,wk,.bool xu,wo,.bool zg,y9,.bool zj,za,.bool zk,zd,.bool zm,zf]))) (l1.length) ?_ ?_
  rotate_left
  ·refine⟨0,(HO++[.cells .live [.bool xt,wk,.bool xu,wo,.bool zg,y9,.bool zj,za,.bool zk,zd,.bool zm,zf]]),(by first|omega|rfl|simp),(by simp[bc,hl]),?_⟩;simp only[aY,hl,aa,ae,g0,g8,g37,CR,BE]
   iterate 10 refine cI ?_
   refine⟨?_,?_,?_⟩
   ·first|omega|trivial
   ·first|exact hP.app|trivial
   ·first|simp|trivial
  clear hl g0 g8 g37 CR BE ts;rintro k_ ts H ⟨m,H1,rfl,hl,g0,g8,g10,g37,CR,BE,Ez,Bc,MQ,rfl,hm,hP,h10⟩;refine VS ?_;by_cases lN:m<l1.length
  rotate_left
  ·have d2:decide ((m:Int)<(l1.length:Int))=false:=bh (by omega);simp only[↓aL,aM,↓reduceIte,aa,ae,hl,BE,Bc,MQ,d2,qm];refine bI ?_;refine⟨_,?_,k+1,H,rfl,(by simp[bc,hl]),?_⟩
   ·first|omega|(simp;omega)
   simp only[aY,hl,aa,ae,g0,g8,g37,CR]
   iterate 6 refine cI ?_
   refine⟨?_,?_⟩
   ·omega
   ·exact hP
  have d2:decide ((m:Int)<(l1.length:Int))=true:=bj;have hx1:AV.aK l1.flatten l1.length=v1:=by rw[XN];exact(gf).symm
  rw[<-hx1]at Ez;have cm:=eP (i:=m) (n:=l1.length) lN;have wm1:=wz (z:=(m:Int)+1) (m:=m+1);have pm:=rU Uo lN;have agJ:=Uo _ (aMg lN);generalize l1[m]=aI0 at pm agJ;obtain⟨a1,vM,mP⟩:=agJ.ex;obtain⟨cr,EA,hVc⟩:=Mu (E:=E) CU vM vN mP (by omega);have hbc:=Mt vN mP;have hz:=tR (E:=E) hVc hbc;obtain⟨UF,Uz,UG,UA,UH,UB,UI,UC,UJ,UD,UK,UE,ey,-,-,-,Py,Oy⟩:=dC vM;injection ey with ey
  subst ey;obtain⟨cn0,cm0,cn1,cm1,cn2,cm2,cn3,cm3,cn4,cm4,cn5,cm5,rfl,-,-,-,Pc,Oc⟩:=dC hVc;have hrc:gL 100000 [.bool cn0,cm0,.bool cn1,cm1,.bool cn2,cm2,.bool cn3,cm3,.bool cn4,cm4,.bool cn5,cm5]:=⟨_,hVc,hbc.mono (by omega)⟩;have Xw:=(aLq.1 h10).1;have MY:=hP.lt;have l10:∀{T:Hp},fE 12 (H++T) HO.length 0=some (.agg [.bool xt,wk,.bool xu,wo,.bool zg,y9,.bool zj,za,.bool zk,zd,.bool zm,zf]):=by intro T;rw[dY,aOr Xw,h10];rfl
  have azZ:HO.length≠3:=by intro e;rw[e]at h10;rw[hP.hL]at h10;cases h10
  by_cases hcz:O9 a2 a1=v0
  ·rw[bj hcz]at hz;simp only[↓aL,aM,↓aS,aJ,ct,↓reduceIte,aa,ah,ae,hl,g10,Ez,Bc,MQ,cm,wm1,pm,l10,EA,hz,Px,Py,Oy,Pc,Oc,aUi,aL9];refine bI ?_;refine⟨_,?_,m+1,(H++[.cells .live [.bool UF,Uz,.bool UG,UA,.bool UH,UB,.bool UI,UC,.bool UJ,UD,.bool UK,UE],.cells .live [.bool cn0,cm0,.bool cn1,cm1,.bool cn2,cm2,.bool cn3,cm3,.bool cn4,cm4,.bool cn5,cm5]]),rfl,(by simp[bc,hl]),?_⟩
   ·first|omega|(simp;omega)
   simp only[aY,hl,aa,ae,g0,g8,g10,g37,CR,BE,Ez,Bc]
   iterate 10 refine cI ?_
   refine⟨?_,?_,?_⟩
   ·omega
   ·exact hP.app
   ·rw[aOr Xw];exact h10
  rw[bh hcz]at hz;obtain⟨r,H2,hy,hG⟩:=key (H++[.cells .live [.bool UF,Uz,.bool UG,UA,.bool UH,UB,.bool UI,UC,.bool UJ,UD,.bool UK,UE],.cells .live [.bool cn0,cm0,.bool cn1,cm1,.bool cn2,cm2,.bool cn3,cm3,.bool cn4,cm4,.bool cn5,cm5]]) _ hrc hP.app;rcases hG with⟨rfl,hP2,Be⟩|⟨rfl,hL2,hF2⟩
  ·simp only[↓aL,aM,↓aS,aJ,ct,↓reduceIte,aa,ah,ae,hl,g0,g10,Ez,Bc,MQ,cm,wm1,pm,l10,EA,hz,hy,Px,Py,Oy,Pc,Oc,aUi,aL9];refine bI ?_;refine⟨_,?_,m+1,H2,rfl,(by simp[bc,hl]),?_⟩
   ·first|omega|(simp;omega)
   simp only[aY,hl,aa,ae,g0,g8,g10,g37,CR,BE,Ez,Bc]
   iterate 10 refine cI ?_
   refine⟨?_,?_,?_⟩
   ·omega
   ·exact hP2
   ·rw[Be _ (by rw[aL9];omega) azZ,aOr Xw];exact h10
  ·simp only[↓aL,aM,↓aS,aJ,ct,↓reduceIte,aa,ah,ae,hl,g0,g10,Ez,Bc,MQ,cm,pm,l10,EA,hz,hy,Px,Py,Oy,Pc,Oc,aUi,aL9];exact LR _ hL2 hF2
 refine atx _ ?_ ?_
 ·intro H' h3 h2;refine⟨.done,some .ret,tr,[13],ac,bd,h3,by decide,?_⟩
  dsimp only
  obtain⟨H4,qD⟩:∃H4,H4=H'.set 3 (.loop .exhausted (some .ret) tr [13] ac bd):=⟨_,rfl⟩;rw[<-qD];have c2:cellAt H4 2 0=some (.bool false):=by rw[bY,qD,aOj (by omega),h2];rfl
  simp only[↓aL,aM,aJ,aa,ae,LO,c2];exact⟨_,rfl⟩
 ·intro H' hP;refine⟨.ready,none,tr,[13],ac,bd,hP.hL,by decide,?_⟩
  dsimp only
  obtain⟨H4,qD⟩:∃H4,H4=H'.set 3 (.loop .exhausted none tr [13] ac bd):=⟨_,rfl⟩;rw[<-qD];obtain⟨tt,h2⟩:=hP.h2;have h42:H4[2]?=some (.cells .live [.bool tt]):=by rw[qD,aOj (by omega)];exact h2
  have eh:=(aLq.1 h42).1;have s2:iZ 1 [.bool true] H4 2 0=some (.cells .live [.bool true]):=by rw[eT,h42];rfl
  obtain⟨H5,hH5⟩:∃H5,H5=H4.set 2 (.cells .live [.bool true]):=⟨_,rfl⟩;have p5:cO H4 2 (.cells .live [.bool true])=H5:=by rw[dT eh,hH5]
  have c2:cellAt H5 2 0=some (.bool true):=by rw[bY,hH5,aOl eh];rfl
  simp only[↓aL,aM,aJ,aa,ae,LO,s2,p5,c2];exact⟨_,rfl⟩
def amb{E:Env}{t s wE:Nat}{ag:Bool}{z:List AV}(hS:ew E t=some (ag,s,wE,z)){H:Hp}{b n k:Nat}{i:IntKind}(hk:k<=n):HT E H t (.aI b 0 n s n) none (some (.int i (k:Int)))=some (.aI b 0 k s n):=by
 obtain⟨ti,e,ei,h1,h2,h3,h4,h5,_⟩:=kn hS;obtain⟨cD,jA,jS,jB,jZ,dK⟩:=ti;simp only at h2;subst h2 h5;simp only[HT,h1,gg,h3,IJ hk]
 simp
def Ij(v:AV)(bG:List I3):Prop:=v=kO bG∨(bG=[]/\(v=.aH∨v=.dw))
def Ij.one{v:AV}{bG:List I3}(h:Ij v bG):cN v=true:=by rcases h with rfl|⟨_,rfl|rfl⟩<;>rfl
def Ij.cells{v:AV}{bG:List I3}(h:Ij v bG):v.cells=[v]:=by rcases h with rfl|⟨_,rfl|rfl⟩<;>rfl
def Ij.pure{v:AV}{bG:List I3}(h:Ij v bG):aU v=true:=by
 rcases h with rfl|⟨_,rfl|rfl⟩
 ·exact Gj bG
 ·rfl
 ·rfl
def KJ{v:AV}(hv:lH v=some 0)(h1:v.cells=[v])(hz:eg v=[])(hp:aU v=true):
  aP E 91 [.agg [v]]=some (.tuple [.agg [.aH,.aH,.aH],.int .i64 23]):=by
 suffices hh:∃r,aP E 91 [.agg [v]]=some r/\r=.tuple [.agg [.aH,.aH,.aH],.int .i64 23]by obtain⟨r,h1,rfl⟩:=hh;exact h1
 have hc:=IT (E:=E) hv h1 hz;refine nY asg ?_;intro ts hl g0;unfold c91;have d0:((23:Int)!=0)=true:=by decide
 simp only[↓aL,aM,↓aS,aJ,↓reduceIte,aa,ah,ae,Tryz.f91,hl,g0,hc,d0,hp]
def Zd{v:AV}{bG:List I3}(hv:Ij v bG)(hn:bG.length<=8):
  ∃(sh:List AV) (c:Int),aP E 91 [.agg [v]]=some (.tuple [.agg sh,.int .i64 c])/\((c≠0/\sh=[.aH,.aH,.aH])∨(c=0/\∃s:Sh,q9 s/\sh=qq s)):=by
 rcases hv with rfl|⟨_,rfl|rfl⟩
 ·obtain⟨r,hr,sh,c,rfl,h⟩:=ad8 (E:=E) hn;exact⟨sh,c,hr,h⟩
 ·exact⟨_,23,KJ rfl rfl rfl rfl,.inl ⟨by decide,rfl⟩⟩
 ·exact⟨_,23,KJ rfl rfl rfl rfl,.inl ⟨by decide,rfl⟩⟩
def HR{a b:Sh}(ha:q9 a)(hb:q9 b):∃t:Bool,aP E 93 [.agg (qq b),.cS (qq a) 0]=some (.bool t):=by
 obtain⟨r,hr,t,rfl⟩:=DH (E:=E) ha hb;obtain⟨va,fa,ea,⟨e1,o1,p1,f1⟩⟩:=ha.s3;obtain⟨vb,fb,eb,⟨e2,o2,p2,f2⟩⟩:=hb.s3;rw[e1,e2]at hr;rw[e1,e2]
 suffices hh:∃r,aP E 93 [.agg [vb,fb,eb],.cS [va,fa,ea] 0]=some r/\r=.bool t by obtain⟨r,h1,rfl⟩:=hh;exact⟨t,h1⟩
 refine oA ayW ?_;intro ts hl g0 g1;unfold c93;simp only[↓aL,aM,↓aS,aJ,↓reduceIte,aa,ah,ae,Tryz.f93,hl,g0,g1,p1,p2,hr]
abbrev Cl:Type:=AV×List I3
abbrev Shs:Type:=List Sh
def InC(v:AV)(cl:List Cl):Prop:=v=.aK (cl.map (·.1)) cl.length∨(cl=[]/\(v=.aH∨v=.dw))
structure anG(c:Cl):Prop where
 inv:Ij c.1 c.2
 n8:c.2.length<=8
def Wc{cl:List Cl}{i:Nat}(h:i<cl.length):eW true 1 (cl.map (·.1)) (i*1)=some (.agg [cl[i].1]):=by
 have h1:i*1+1<=(cl.map (·.1)).length:=by simp;omega
 rw[jd h1,Nat.mul_one];rw[List.drop_eq_getElem_cons (by simpa using h)]
 simp
def DR(l:Shs):List AV:=(l.map qq).flatten
def qQ(l:Shs):∀r∈l.map qq,r.length=3:=by intro r hr;obtain⟨p,_,rfl⟩:=aNg.1 hr;rfl
def HQ(l:Shs):(DR l).length=l.length*3:=by unfold DR;rw[jL (qQ l),List.length_map]
def al6{l:Shs}{i b:Nat}{H:Hp}(hb:H[b]?=some (.cells .live (DR l)))(hi:i<l.length):fE 3 H b (i*3)=some (.agg (qq l[i])):=by
 have h1:(l.map qq)[i]?=some (qq l[i]):=by rw[aM4,aL6 hi];rfl
 rw[dY,hb]
 dsimp only
 have h3:=iM (qQ l) (j:=i) (by simpa using hi);unfold DR;rw[if_neg (by decide),if_pos h3,jC (qQ l) h1]
def al7{l:Shs}{i:Nat}(hi:i<l.length):eW true 3 (DR l) (i*3)=some (.agg (qq l[i])):=by
 have h1:(l.map qq)[i]?=some (qq l[i]):=by rw[aM4,aL6 hi];rfl
 have h3:=iM (qQ l) (j:=i) (by simpa using hi);unfold DR;rw[jd (s:=3) h3,jC (qQ l) h1]
def Lh(l:Shs):∀c∈DR l,Flat c:=by
 intro c hc;obtain⟨r,hr,EA⟩:=List.mem_flatten.1 hc;obtain⟨s,_,rfl⟩:=aNg.1 hr;unfold qq at EA;simp only[aNe,aV0,or_false]at EA;rcases EA with rfl|rfl|rfl<;>exact yR
def Li:∀{l:Shs},(∀s∈l,q9 s)->aV (DR l)=true
 |[],_=>rfl
 |s::l,h=>by
  have:DR (s::l)=qq s++DR l:=by simp[DR]
  rw[this,kW,(h s (by simp)).pure,Li (l:=l) fun x hx=>h x (by simp[hx])];rfl
def Z0{l:Shs}(j:Nat):(DR l).take (j*3)=DR (l.take j):=by unfold DR;rw[kU j (qQ l),List.map_take]
def Lj{nm:List UInt8}{dn:Int}{cv:AV}{cl:List Cl}(Xj:InC cv cl)(oB:∀c∈cl,anG c)(hn:cl.length<=1000):
  ∃r,aP E 63 [.agg [.str nm,.int .i64 dn,cv]]=some r/\∃(v:AV) (c:Int),r=.tuple [v,.int .i64 c]:=by
 have o8:lH cv=some ((cl.length:Nat):Int):=by rcases Xj with rfl|⟨rfl,rfl|rfl⟩<;>rfl
 have ocv:cN cv=true:=by rcases Xj with rfl|⟨rfl,rfl|rfl⟩<;>rfl
 have rcv:eg cv=[]:=by rcases Xj with rfl|⟨rfl,rfl|rfl⟩<;>rfl
 have au2:cN (.str nm)=true:=rfl;refine nY ayL ?_;intro ts hl g0;unfold c63;by_cases h1:dn<1
 ·have d1:decide (dn<1)=true:=bj h1;simp only[↓aL,aM,aJ,aa,ae,Tryz.f63,hl,g0,d1];exact⟨_,_,rfl⟩
 have d1:decide (dn<1)=false:=bh h1;by_cases h2:dn>1048576
 ·have d2:decide (dn>1048576)=true:=bj h2;simp only[↓aL,aM,aJ,aa,ae,Tryz.f63,hl,g0,d1,d2];exact⟨_,_,rfl⟩
 have d2:decide (dn>1048576)=false:=bh h2;by_cases h3:cl.length=0
 ·have d3:((cl.length:Int)==0)=true:=by simp[h3]
  simp only[↓aL,aM,aJ,aa,ae,Tryz.f63,hl,g0,o8,d1,d2,d3];exact⟨_,_,rfl⟩
 have d3:((cl.length:Int)==0)=false:=by
  have:(cl.length:Int)≠0:=by omega
  simpa using this
 by_cases h4:6<cl.length
 ·have d4:decide ((cl.length:Int)>6)=true:=bj;simp only[↓aL,aM,aJ,aa,ae,Tryz.f63,hl,g0,o8,d1,d2,d3,d4];exact⟨_,_,rfl⟩
 have d4:decide ((cl.length:Int)>6)=false:=bh (by omega);obtain rfl:cv=.aK (cl.map (·.1)) cl.length:=by
  rcases Xj with h|⟨h,_⟩
  ·exact h
  ·rw[h]at h3;exact absurd rfl h3
 simp only[↓aL,aM,aJ,aa,ae,Tryz.f63,hl,g0,o8,d1,d2,d3,d4];refine cC (fun k_ ts H=>∃i:Nat,∃v:AV,∃ss:Shs,∃H1:Hp,k_=(cl.length-i:Nat)/\ts.length=64/\gt ts 4=v/\gt ts 31=.aK (cl.map (·.1)) cl.length/\gt ts 32=.int .i64 (cl.length:Int)/\gt ts 33=.int .i64 (i:Int)/\H=H1/\(i<=cl.length)/\(∀s∈ss,q9 s)/\(ss.length=i)/\(uy 3 0 v H1 ss.length (DR ss))) (cl.length) ?_ ?_
 rotate_left
 ·refine⟨0,.aH,[],[.cells .live [.str nm,.int .i64 dn,.aK (cl.map (·.1)) cl.length]],(by first|omega|rfl|simp),(by simp[bc,hl]),?_⟩;simp only[aY,hl,aa,ae]
  iterate 5 refine cI ?_
  refine⟨?_,?_,?_,?_⟩
  ·first|omega|trivial
  ·first|(intro s hs;cases hs)|trivial
  ·first|rfl|trivial
  ·first|exact .inl ⟨rfl,rfl,rfl⟩|trivial
 clear hl g0 ts;rintro k_ ts H ⟨i,v,ss,H1,rfl,hl,g4,g31,g32,g33,rfl,hi,hs,C2,hH⟩;refine VS ?_;by_cases hd:i<cl.length
 ·have e1:decide ((i:Int)<(cl.length:Int))=true:=bj;have ci:=eP (i:=i) (n:=cl.length) hd;have lP:=wz (z:=(i:Int)+1) (m:=i+1);have pa:=Wc hd;have GY:=oB _ (aMg hd);generalize cl[i]=c at pa GY;obtain⟨cw,bG⟩:=c;have ocw:=GY.inv.one;have pcw:=GY.inv.pure;obtain⟨sh,c,hof,se⟩:=Zd (E:=E) GY.inv GY.n8;rw[Nat.mul_one]at pa
  dsimp only at pa ocw pcw hof
  rcases se with⟨hc,rfl⟩|⟨rfl,s,adw,rfl⟩
  ·have dc:(c !=0)=true:=by simpa using hc
   simp only[↓aL,aM,↓aS,aJ,ct,↓reduceIte,aa,ah,ae,hl,g31,g32,g33,ci,pa,ocw,pcw,hof,dc,aUi,aL9];exact⟨_,_,rfl⟩
  have dc:((0:Int)!=0)=false:=by decide
  obtain⟨vv,ff,ee,⟨es,oS,pS,fS⟩⟩:=adw.s3;rw[es]at hof;have BG:∀aR,bZ E aR 101 1 [(0,AV.agg [vv,ff,ee])]=some (.aI aR 0 1 3 1,[(aR,.cells .live [vv,ff,ee])]):=fun aR=>lk Gm rfl (by decide) (by decide) rfl
  obtain⟨v',bJ,lD,xp,-,-⟩:=xR (E:=E) (H:=H++[.cells .live [cw],.cells .live [vv,ff,ee]]) (low:=0) (x:=[vv,ff,ee]) Gm (by decide) hH.app (HQ ss) rfl (by simp[oS]) (by unfold fH;omega) (by omega) (Nat.zero_le _);simp only[aL9,List.length_cons,List.length_nil,aL5,ah,aUi,aRk,List.nil_append]at lD;simp only[↓aL,aM,↓aS,aJ,ct,↓reduceIte,aa,ah,ae,hl,g4,g31,g32,g33,ci,lP,pa,ocw,pcw,hof,dc,oS,BG,lD,aUi,aL9];rw[aUi,aRk,aRk,List.nil_append]at xp;generalize cF.app _ (cF.bJ bJ)=H3 at xp⊢;refine bI ?_;refine⟨_,?_,i+1,v',ss++[s],H3,rfl,(by simp[bc,hl]),?_⟩
  ·first|omega|(simp;omega)
  simp only[aY,hl,aa,ae,g31,g32]
  iterate 5 refine cI ?_
  refine⟨?_,?_,?_,?_⟩
  ·omega
  ·intro x hx;rcases List.mem_append.1 hx with hx|hx
   ·exact hs x hx
   ·rw[List.mem_singleton]at hx;subst hx;exact adw
  ·rw[aL9,C2];rfl
  ·have:DR (ss++[s])=DR ss++[vv,ff,ee]:=by unfold DR;rw[List.map_append,List.flatten_append];simp[es]
   rw[aL9,this];exact xp
 have e1:decide ((i:Int)<(cl.length:Int))=false:=bh (by omega);rcases hH with⟨e0,-,-⟩|⟨k0,b,b0,bl,rfl,hb⟩
 ·omega
 simp only[↓aL,aM,aJ,↓reduceIte,aa,ae,hl,g4,g32,g33,e1];have hss:ss.length<=6:=by omega
 refine cC (fun k_ ts H=>∃j:Nat,∃H1:Hp,k_=(ss.length-j:Nat)/\ts.length=64/\gt ts 4=.aI b 0 ss.length 3 ss.length/\gt ts 50=.aI b 0 ss.length 3 ss.length/\gt ts 51=.int .i64 (ss.length:Int)/\gt ts 52=.int .i64 (j:Int)/\H=H1/\(j<=ss.length)/\(H1[b]?=some (.cells .live (DR ss)))) (ss.length) ?_ ?_
 rotate_left
 ·refine⟨0,H,(by first|omega|rfl|simp),(by simp[bc,hl]),?_⟩;simp only[aY,hl,aa,ae,g4]
  iterate 5 refine cI ?_
  refine⟨?_,?_⟩
  ·first|omega|trivial
  ·first|exact hb|trivial
 clear hl g4 g31 g32 g33 ts;rintro k_ ts H ⟨j,H1,rfl,hl,g4,g50,g51,g52,rfl,hj,hb⟩;refine VS ?_;by_cases hd:j<ss.length
 rotate_left
 ·have e1:decide ((j:Int)<(ss.length:Int))=false:=bh (by omega);obtain⟨u,gH⟩:∃u,sI false H [.tuple [.aI b 0 ss.length 3 ss.length,.int .i64 0]]=some ([.tuple [.aK (DR ss) ss.length,.int .i64 0]],u):=
   ⟨_,nk (m:=3) (ft.cons (Fr.tup (ft.cons (Fr.hsA hb (by decide) (HQ ss) (ft.flat (Lh ss))) (ft.cons ((Fr.flat iX).up (by omega)) ft.nil))) ft.nil) (by omega) (by simp[aV,aU])⟩
  simp only[↓aL,aM,↓reduceIte,aa,ae,hl,g4,g51,g52,e1,gH];exact⟨_,_,rfl⟩
 have e1:decide ((j:Int)<(ss.length:Int))=true:=bj;have cj:=eP (i:=j) (n:=ss.length) hd;have wj1:=wz (z:=(j:Int)+1) (m:=j+1);have pa:=al6 hb hd;have G4:=hs _ (aMg hd);generalize ss[j]=s at pa G4;have CW:=(aLq.1 hb).1;have dx:=amb (E:=E) Gm (H:=H++[.cells .live (qq s)]) (b:=b) (n:=ss.length) (k:=j) (i:=.i64) (by omega);have Qs:(ss.take j).length=j:=by rw[List.length_take];omega
 have htk:∀x∈ss.take j,q9 x:=fun x hx=>hs x (List.mem_of_mem_take hx)
 have hex:∀q,∃t:Bool,∀hq:q<(ss.take j).length,aP E 93 [.agg (qq (ss.take j)[q]),.cS (qq s) 0]=some (.bool t):=by
  intro q;by_cases hq:q<(ss.take j).length
  ·obtain⟨t,ht⟩:=HR (E:=E) G4 (htk _ (aMg hq));exact⟨t,fun _=>ht⟩
  ·exact⟨false,fun h=>absurd h hq⟩
 obtain⟨r,hr,t,rfl,-⟩:=oU (E:=E) .s .s (n:=j) (g:=93) (cs:=DR (ss.take j)) (caps:=[.cS (qq s) 0]) (el:=fun q=>.agg (qq ((ss.take j).getD q ⟨[],[],[]⟩))) (p:=fun q=>Classical.choose (hex q)) (by omega) (bO C) (Li htk) (by simp[aV,aU,G4.pure])
  (fun q hq=>by rw[al7 (by omega),aT1,aL6 (by omega)];rfl)
  (fun q hq=>by
   rw[aT1,aL6 (by omega)]
   have:=(htk _ (aMg (show q<(ss.take j).length by omega))).pure
   simpa[aU]using this)
  (fun q hq=>by
   rw[aT1,aL6 (by omega)];exact Classical.choose_spec (hex q) (by omega))
 obtain⟨u,gH⟩:∃u,sI false (H++[.cells .live (qq s)]) [.aI b 0 j 3 ss.length,.func 93 [] [.bK H.length 0]]=some ([.aK (DR (ss.take j)) j,.func 93 [] [.cS (qq s) 0]],u):=by
  refine⟨_,nk (m:=3) (ft.cons ((Fr.hs (m:=1) (bs:=[]) (st:=.live) (cs:=DR ss) (by rw[aOr CW];exact hb) (by decide) (by rw[HQ];omega) ?_).up (by omega)) (ft.cons (Fr.func (ft.cons (Fr.hp (st:=.live) (cs:=qq s) (by simp) (by decide) (ft.flat ?_)) ft.nil)) ft.nil)) (by omega) (by simp[aV,aU])⟩
  ·rw[List.drop_zero,Z0];exact ft.flat (Lh _)
  ·intro c hc;unfold qq at hc;simp only[aNe,aV0,or_false]at hc;rcases hc with rfl|rfl|rfl<;>exact yR
 obtain⟨vv,ff,ee,⟨es,oS,pS,fS⟩⟩:=G4.s3;rw[es]at pa dx hr gH;cases t
 ·simp only[↓aL,aM,↓aS,aJ,ct,↓reduceIte,aa,ah,ae,hl,g4,g50,g51,g52,cj,wj1,pa,oS,dx,gH,hr];refine bI ?_;refine⟨_,?_,j+1,(H++[.cells .live [vv,ff,ee]]),rfl,(by simp[bc,hl]),?_⟩
  ·first|omega|(simp;omega)
  simp only[aY,hl,aa,ae,g4,g50,g51]
  iterate 5 refine cI ?_
  refine⟨?_,?_⟩
  ·omega
  ·rw[aOr CW];exact hb
 ·simp only[↓aL,aM,↓aS,aJ,ct,↓reduceIte,aa,ah,ae,hl,g4,g50,g51,g52,cj,pa,oS,dx,gH,hr];exact⟨_,_,rfl⟩
def Lg{nm:List UInt8}{dn:Int}{cv:AV}{cl:List Cl}(Xj:InC cv cl)(oB:∀c∈cl,anG c)(hn:cl.length<=1000):
  ∃c:Int,aP E 33 [.agg [.str nm,.int .i64 dn,cv]]=some (.int .i64 c):=by
 obtain⟨r,hr,v,c,rfl⟩:=Lj (E:=E) (nm:=nm) (dn:=dn) Xj oB hn;have ocv:cN cv=true:=by rcases Xj with rfl|⟨rfl,rfl|rfl⟩<;>rfl
 have pcv:aU cv=true:=by
  rcases Xj with rfl|⟨rfl,rfl|rfl⟩
  ·simp only[aU]
  ·rfl
  ·rfl
 have au2:cN (.str nm)=true:=rfl
 suffices hh:∃u,aP E 33 [.agg [.str nm,.int .i64 dn,cv]]=some u/\u=.int .i64 c by obtain⟨u,e,rfl⟩:=hh;exact⟨c,e⟩
 refine nY ayw ?_;intro ts hl g0;unfold c33;simp only[↓aL,aM,↓aS,aJ,↓reduceIte,aa,ah,ae,Tryz.f33,hl,g0,pcv,hr]
end Go.Proofs.YtmkjgfnicfpjpaaGreatDoor
namespace Go.Proofs.YtmkjgfnicfpjpaaGreatDoor
open Go Dv
variable{E:Env}[C:Ctx E]
def Th(i c:Nat):Bool:=(decide (97<=c)&&decide (c<=122))||(decide (i≠0)&&((decide (48<=c)&&decide (c<=57))||decide (c=45)||decide (c=95)))
def wW(s:List UInt8)(i:Nat):Nat:=(s.getD i 0).toNat
def wR(s:List UInt8):Bool:=decide (∀i,i<s.length->Th i (wW s i)=true)&&decide (0<s.length/\s.length<=40)
def Y6{s:List UInt8}{i:Nat}(hi:i<s.length)(h:Th i (wW s i)=false):wR s=false:=by unfold wR;rw[bh (fun k=>by rw[k i hi]at h;cases h)];rfl
def Y7{s:List UInt8}(h:∀i,i<s.length->Th i (wW s i)=true):wR s=decide (0<s.length/\s.length<=40):=by unfold wR;rw[bj h];rfl
def Zf{i c:Nat}:Th i c=(decide ((c:Int)≥97)&&decide ((c:Int)<=122)||!((i:Int)==0)&&(!decide ((c:Int)<48)&&!decide ((c:Int)>57)||!((c:Int)!=45)||!((c:Int)!=95))):=by
 unfold Th;rw[Bool.eq_iff_iff]
 simp
 omega
def JA{s:List UInt8}(hs:s.length<=4611686018427387904):aP E 26 [.str s]=some (.bool (wR s)):=by
 suffices hh:∃r,aP E 26 [.str s]=some r/\r=.bool (wR s)by obtain⟨r,h1,rfl⟩:=hh;exact h1
 have st9:kN E 9=true:=Ls C;refine nY ays ?_;intro ts hl g0;unfold c26;simp only[↓aL,aM,aJ,aa,ae,Tryz.f26,hl,g0];refine cC (fun k_ ts H=>∃i:Nat,k_=(s.length-i:Nat)/\ts.length=51/\gt ts 0=.str s/\gt ts 6=.str s/\gt ts 7=.int .i64 (s.length:Int)/\gt ts 8=.int .i64 (i:Int)/\H=[]/\(i<=s.length)/\(∀j,j<i->Th j (wW s j)=true)) (s.length) ?_ ?_
 rotate_left
 ·refine⟨0,(by first|omega|rfl|simp),(by simp[bc,hl]),?_⟩;simp only[aY,hl,aa,ae,g0]
  iterate 5 refine cI ?_
  refine⟨?_,?_⟩
  ·first|omega|trivial
  ·first|(intro j hj;omega)|trivial
 clear hl g0 ts;rintro k_ ts H ⟨i,rfl,hl,g0,g6,g7,g8,rfl,hi,hq⟩;refine VS ?_;by_cases hd:i<s.length
 rotate_left
 ·have d1:decide ((i:Int)<(s.length:Int))=false:=bh (by omega);rw[Y7 fun j hj=>hq j (by omega)];by_cases h0:0<s.length
  ·have e0:decide ((s.length:Int)>0)=true:=bj;by_cases h40:s.length<=40
   ·have e1:decide ((s.length:Int)<=40)=true:=bj;simp only[↓aL,aM,aJ,↓reduceIte,aa,ae,hl,g0,g7,g8,d1,e0,e1];rw[bj ⟨h0,h40⟩]
   ·have e1:decide ((s.length:Int)<=40)=false:=bh (by omega);simp only[↓aL,aM,aJ,↓reduceIte,aa,ae,hl,g0,g7,g8,d1,e0,e1];rw[bh (fun h=>h40 h.2)]
  ·have e0:decide ((s.length:Int)>0)=false:=bh (by omega);simp only[↓aL,aM,aJ,↓reduceIte,aa,ae,hl,g0,g7,g8,d1,e0];rw[bh (fun h=>h0 h.1)]
 have d1:decide ((i:Int)<(s.length:Int))=true:=bj;have qF:lF E 9 (.str s) (.int .i64 (i:Int))=some (.int .u8 ((wW s i:Nat):Int)):=by
  have:=G7 (E:=E) (k:=.i64) (i:=i) st9 (s:=s) (c:=s[i]) (aL6 hd)
  rw[this];unfold wW;rw[aT1,aL6 hd];rfl
 have lP:=wz (z:=(i:Int)+1) (m:=i+1);have zL:=fun h=>Y6 (s:=s) hd h
 have qo:Th i (wW s i)=true->∀j,j<i+1->Th j (wW s j)=true:=by
  intro h j hj;rcases aUh (aUl hj)with h2|rfl
  ·exact hq j h2
  ·exact h
 generalize wW s i=c at qF zL qo;have G0:Th i c=(decide ((c:Int)≥97)&&decide ((c:Int)<=122)||!((i:Int)==0)&&(!decide ((c:Int)<48)&&!decide ((c:Int)>57)||!((c:Int)!=45)||!((c:Int)!=95))):=Zf
 revert G0
 cases ha:decide ((c:Int)≥97)<;>cases hb:decide ((c:Int)<=122)<;>cases hz:((i:Int)==0)<;>cases hk:decide ((c:Int)<48)<;>cases h57:decide ((c:Int)>57)<;>cases hm:((c:Int)!=45)<;>cases hu:((c:Int)!=95)
 all_goals
  intro G0;simp only[↓aL,aM,aa,ae,hl,g0,g7,g8,d1,qF,lP,ha,hb,hz,hk,h57,hm,hu]
 all_goals try (rw[zL G0];done)
 all_goals
  refine bI ?_;refine⟨_,?_,i+1,rfl,(by simp[bc,hl]),?_⟩
  ·first|omega|(simp;omega)
  simp only[aY,hl,aa,ae,g0,g6,g7]
  iterate 5 refine cI ?_
  refine⟨?_,?_⟩
  ·omega
  ·exact qo G0
def Dg{s:List UInt8}(hs:s.length<=4611686018427387904):aP E 35 [.str s]=some (.bool (wR s)):=by
 suffices hh:∃r,aP E 35 [.str s]=some r/\r=.bool (wR s)by obtain⟨r,h1,rfl⟩:=hh;exact h1
 have st9:kN E 9=true:=Ls C;refine nY ayy ?_;intro ts hl g0;unfold c35;simp only[↓aL,aM,Tryz.f35];refine cC (fun k_ ts H=>∃i:Nat,k_=(s.length-i:Nat)/\ts.length=51/\gt ts 0=.str s/\gt ts 3=.int .i64 (i:Int)/\H=[]/\(i<=s.length)/\(∀j,j<i->Th j (wW s j)=true)) (s.length) ?_ ?_
 rotate_left
 ·refine⟨0,(by first|omega|rfl|simp),(by simp[bc,hl]),?_⟩;simp only[aY,hl,aa,ae,g0]
  iterate 3 refine cI ?_
  refine⟨?_,?_⟩
  ·first|omega|trivial
  ·first|(intro j hj;omega)|trivial
 clear hl g0 ts;rintro k_ ts H ⟨i,rfl,hl,g0,g3,rfl,hi,hq⟩;refine VS ?_;by_cases hd:i<s.length
 rotate_left
 ·have d1:decide ((i:Int)<(s.length:Int))=false:=bh (by omega);rw[Y7 fun j hj=>hq j (by omega)];by_cases h0:0<s.length
  ·have e0:decide ((s.length:Int)≥1)=true:=bj;by_cases h40:s.length<=40
   ·have e1:decide ((s.length:Int)<=40)=true:=bj;simp only[↓aL,aM,aJ,↓reduceIte,aa,ae,hl,g0,g3,d1,e0,e1];rw[bj ⟨h0,h40⟩]
   ·have e1:decide ((s.length:Int)<=40)=false:=bh (by omega);simp only[↓aL,aM,aJ,↓reduceIte,aa,ae,hl,g0,g3,d1,e0,e1];rw[bh (fun h=>h40 h.2)]
  ·have e0:decide ((s.length:Int)≥1)=false:=bh (by omega);simp only[↓aL,aM,aJ,↓reduceIte,aa,ae,hl,g0,g3,d1,e0];rw[bh (fun h=>h0 h.1)]
 have d1:decide ((i:Int)<(s.length:Int))=true:=bj;have qF:lF E 9 (.str s) (.int .i64 (i:Int))=some (.int .u8 ((wW s i:Nat):Int)):=by
  have:=G7 (E:=E) (k:=.i64) (i:=i) st9 (s:=s) (c:=s[i]) (aL6 hd)
  rw[this];unfold wW;rw[aT1,aL6 hd];rfl
 have lP:=wz (z:=(i:Int)+1) (m:=i+1);have zL:=fun h=>Y6 (s:=s) hd h
 have qo:Th i (wW s i)=true->∀j,j<i+1->Th j (wW s j)=true:=by
  intro h j hj;rcases aUh (aUl hj)with h2|rfl
  ·exact hq j h2
  ·exact h
 generalize wW s i=c at qF zL qo;have G0:Th i c=(decide ((c:Int)≥97)&&decide ((c:Int)<=122)||!((i:Int)==0)&&(!decide ((c:Int)<48)&&!decide ((c:Int)>57)||!((c:Int)!=45)||!((c:Int)!=95))):=Zf
 revert G0
 cases ha:decide ((c:Int)≥97)<;>cases hb:decide ((c:Int)<=122)<;>cases hz:((i:Int)==0)<;>cases hk:decide ((c:Int)<48)<;>cases h57:decide ((c:Int)>57)<;>cases hm:((c:Int)!=45)<;>cases hu:((c:Int)!=95)
 all_goals
  intro G0;simp only[↓aL,aM,aJ,aa,ae,hl,g0,g3,d1,qF,lP,ha,hb,hz,hk,h57,hm,hu]
 all_goals try (rw[zL G0];done)
 all_goals
  refine bI ?_;refine⟨_,?_,i+1,rfl,(by simp[bc,hl]),?_⟩
  ·first|omega|(simp;omega)
  simp only[aY,hl,aa,ae,g0]
  iterate 3 refine cI ?_
  refine⟨?_,?_⟩
  ·omega
  ·exact qo G0
end Go.Proofs.YtmkjgfnicfpjpaaGreatDoor
namespace Go.Proofs.YtmkjgfnicfpjpaaGreatDoor
open Go Dv Dv.dk
variable{E:Env}[C:Ctx E]
def abn{c:Bool}{t0 t1 t2 t3:Int}:cp E c .eql 40 (.agg [.int .i64 t0,.int .i64 t1,.int .i64 t2,.int .i64 t3]) (.agg [.int .i64 0,.int .i64 0,.int .i64 0,.int .i64 0])=some (.bool (decide (t0=0/\t1=0/\t2=0/\t3=0))):=by
 have h:=Jz (E:=E) (c:=c) (t:=40) (n:=4) (Cx C) (Ba C) (xs:=[t0,t1,t2,t3]) (ys:=[0,0,0,0]) rfl rfl;have e:decide ([t0,t1,t2,t3]=[0,0,0,0])=decide (t0=0/\t1=0/\t2=0/\t3=0):=by simp
 rw[e]at h;exact h
def Jr(t:Int):Bool:=decide (-12<=t/\t<=12)
def uL{t:Int}(h:Jr t=true):decide (t< -12)=false/\decide (t>12)=false:=by
 unfold Jr at h
 have:=of_decide_eq_true h
 exact⟨bh (by omega),bh (by omega)⟩
def BJ{t:Int}(h:¬Jr t=true):decide (t< -12)=true∨(decide (t< -12)=false/\decide (t>12)=true):=by
 unfold Jr at h
 have:¬(-12<=t/\t<=12):=fun e=>h (bj e)
 by_cases h1:t< -12
 ·exact .inl (bj h1)
 ·exact .inr ⟨bh h1,bj⟩
def KC{t0 t1 t2 t3:Int}{s0 s1 s2:List UInt8}(h0:s0.length<=4611686018427387904)(h1:s1.length<=4611686018427387904)(h2:s2.length<=4611686018427387904):
  ∃c,aP E 34 [.agg [.int .i64 t0,.int .i64 t1,.int .i64 t2,.int .i64 t3,.str s0,.str s1,.str s2]]=some (.int .i64 c)/\(c=0->(Jr t0=true/\Jr t1=true/\Jr t2=true/\Jr t3=true)/\¬(t0=0/\t1=0/\t2=0/\t3=0)/\A4 400 s0 s1 s2=0):=by
 suffices hh:∃u,aP E 34 [.agg [.int .i64 t0,.int .i64 t1,.int .i64 t2,.int .i64 t3,.str s0,.str s1,.str s2]]=some u/\∃c,u=.int .i64 c/\(c=0->(Jr t0=true/\Jr t1=true/\Jr t2=true/\Jr t3=true)/\¬(t0=0/\t1=0/\t2=0/\t3=0)/\A4 400 s0 s1 s2=0)by
  obtain⟨u,e,c,rfl,h⟩:=hh;exact⟨c,e,h⟩
 have hq:=fun{c:Bool}=>abn (E:=E) (c:=c) (t0:=t0) (t1:=t1) (t2:=t2) (t3:=t3)
 obtain⟨r,hr,ir⟩:=LA (E:=E) h0 h1 h2;obtain⟨xt,wk,xu,wo,zg,y9,zj,za,zk,zd,zm,zf,rfl,-,-,-,P,O⟩:=dC ir;refine nY ayx ?_;intro ts hl g0;unfold c34;by_cases hz:t0=0/\t1=0/\t2=0/\t3=0
 ·rw[bj hz]at hq;simp only[↓aL,aM,aJ,↓reduceIte,aa,ah,ae,Tryz.f34,ai,aB,hl,g0,hq];exact⟨_,rfl,fun e=>absurd e (by decide)⟩
 rw[bh hz]at hq;simp only[↓aL,aM,aJ,↓reduceIte,aa,ah,ae,Tryz.f34,ai,aB,hl,g0,hq];refine rS 5 ?_;by_cases k0:Jr t0=true
 rotate_left
 ·rcases BJ k0 with e|⟨e,e'⟩
  ·simp only[↓aL,aM,aJ,↓reduceIte,aa,ae,an,aq,ar,aB,hl,e];exact⟨_,rfl,fun e=>absurd e (by decide)⟩
  ·simp only[↓aL,aM,aJ,↓reduceIte,aa,ae,an,aq,ar,aB,hl,e,e'];exact⟨_,rfl,fun e=>absurd e (by decide)⟩
 obtain⟨a0,a0'⟩:=uL k0;by_cases k1:Jr t1=true
 rotate_left
 ·rcases BJ k1 with e|⟨e,e'⟩
  ·simp only[↓aL,aM,aJ,↓reduceIte,aa,ae,an,aq,ar,aA,aB,hl,a0,a0',qm,e];exact⟨_,rfl,fun e=>absurd e (by decide)⟩
  ·simp only[↓aL,aM,aJ,↓reduceIte,aa,ae,an,aq,ar,aA,aB,hl,a0,a0',qm,e,e'];exact⟨_,rfl,fun e=>absurd e (by decide)⟩
 obtain⟨a1,a1'⟩:=uL k1;by_cases k2:Jr t2=true
 rotate_left
 ·rcases BJ k2 with e|⟨e,e'⟩
  ·simp only[↓aL,aM,aJ,↓reduceIte,aa,ae,an,aq,ar,aA,aB,hl,a0,a0',a1,a1',qm,Pg,e];exact⟨_,rfl,fun e=>absurd e (by decide)⟩
  ·simp only[↓aL,aM,aJ,↓reduceIte,aa,ae,an,aq,ar,aA,aB,hl,a0,a0',a1,a1',qm,Pg,e,e'];exact⟨_,rfl,fun e=>absurd e (by decide)⟩
 obtain⟨a2,a2'⟩:=uL k2;by_cases k3:Jr t3=true
 rotate_left
 ·rcases BJ k3 with e|⟨e,e'⟩
  ·simp only[↓aL,aM,aJ,↓reduceIte,aa,ae,an,aq,ar,aA,aB,hl,a0,a0',a1,a1',a2,a2',qm,Pg,wk3,e];exact⟨_,rfl,fun e=>absurd e (by decide)⟩
  ·simp only[↓aL,aM,aJ,↓reduceIte,aa,ae,an,aq,ar,aA,aB,hl,a0,a0',a1,a1',a2,a2',qm,Pg,wk3,e,e'];exact⟨_,rfl,fun e=>absurd e (by decide)⟩
 obtain⟨a3,a3'⟩:=uL k3;simp only[↓aL,aM,aJ,↓reduceIte,aa,ah,ae,an,aq,ar,ai,aA,aB,hl,a0,a0',a1,a1',a2,a2',a3,a3',qm,Pg,wk3,wk4];refine cC (fun k_ ts H=>∃i g sg,k_=4-i/\ts.length=60/\gt ts 1=.bK 0 0/\gt ts 5=.int .i64 ((g:Nat):Int)/\gt ts 6=.int .i64 sg/\gt ts 29=.agg [.int .i64 t0,.int .i64 t1,.int .i64 t2,.int .i64 t3]/\gt ts 30=.int .i64 (i:Int)/\H=[.cells .live [.int .i64 t0,.int .i64 t1,.int .i64 t2,.int .i64 t3,.str s0,.str s1,.str s2]]/\(i<=4)/\(g<=12)) (4) ?_ ?_
 rotate_left
 ·refine⟨0,0,0,(by first|omega|rfl|simp),(by simp[bc,hl]),?_⟩;simp only[aY,hl,aa,ae]
  iterate 6 refine cI ?_
  refine⟨?_,?_⟩
  ·first|omega|trivial
  ·first|omega|trivial
 clear hl g0 ts;rintro k_ ts H ⟨i,g,sg,rfl,hl,g1,g5,g6,MP,Im,rfl,hi,hg⟩;refine VS ?_;by_cases hd:i<4
 rotate_left
 ·have dc:decide ((i:Int)<4)=false:=bh (by omega);by_cases hb:(g:Int)=1/\¬sg<0
  ·have b1:((g:Int)!=1)=false:=by rw[hb.1];rfl
   have b2:decide (sg<0)=false:=bh hb.2;simp only[↓aL,aM,↓aS,aJ,↓reduceIte,aa,ah,ae,hl,g1,g5,g6,Im,dc,b1,b2,hr,O];exact⟨_,rfl,fun e=>⟨⟨k0,k1,k2,k3⟩,hz,e⟩⟩
  ·by_cases mP:(g:Int)=1
   ·have b1:((g:Int)!=1)=false:=by rw[mP];rfl
    have b2:decide (sg<0)=true:=bj;simp only[↓aL,aM,↓reduceIte,aa,ae,hl,g5,g6,Im,dc,b1,b2];exact⟨_,rfl,fun e=>absurd e (by decide)⟩
   ·have b1:((g:Int)!=1)=true:=bne_iff_ne.2 mP;simp only[↓aL,aM,↓reduceIte,aa,ae,hl,g5,Im,dc,b1];exact⟨_,rfl,fun e=>absurd e (by decide)⟩
 have dc:decide ((i:Int)<4)=true:=bj;have dc':((i:Int)<4)=True:=eq_true (by omega);have w1:aW .i64 ((i:Int)+1)=((i+1:Nat):Int):=by rw[wrap_i64];omega
 obtain⟨t,vP,ht⟩:∃t,eW false 1 [.int .i64 t0,.int .i64 t1,.int .i64 t2,.int .i64 t3] i=some (.int .i64 t)/\Jr t=true:=by
  obtain e|e|e|e:i=0∨i=1∨i=2∨i=3:=by omega
  all_goals subst e
  ·exact⟨t0,rfl,k0⟩
  ·exact⟨t1,rfl,k1⟩
  ·exact⟨t2,rfl,k2⟩
  ·exact⟨t3,rfl,k3⟩
 have htb:=of_decide_eq_true ht;have hpr:E.pairs 17 6=[]:=dN C rfl;have wn:aW .i64 (0-t)= -t:=by rw[wrap_i64];omega
 obtain⟨a,ha,Sx⟩:∃a:Nat,a<=12/\∀H aR,bM E H aR .max [3,3] [.int .i64 t,.int .i64 (-t)]=some (.int .i64 (a:Int),[]):=by
  by_cases hp:0<=t
  ·refine⟨t.toNat,by omega,fun H aR=>?_⟩;rw[show((t.toNat:Nat):Int)=t by omega];by_cases h0:t=0
   ·subst h0;simp[bM,qC,AK]
   ·have h1:¬t< -t:=by omega
    simp[bM,qC,AK];omega
  ·refine⟨(-t).toNat,by omega,fun H aR=>?_⟩;rw[show(((-t).toNat:Nat):Int)= -t by omega];have h1:t< -t:=by omega
   simp[bM,qC,AK];omega
 by_cases zR:sg=0
 ·have hs:(sg==0)=true:=by rw[zR];rfl
  simp only[↓aL,aM,aJ,↓reduceIte,aa,ae,hl,g6,MP,Im,dc',hs,vP,Ib,wn,Sx];refine cC (fun k_ ts H=>∃g2 En sg2,k_=0+En/\ts.length=60/\gt ts 1=.bK 0 0/\gt ts 5=.int .i64 ((g2:Nat):Int)/\gt ts 6=.int .i64 sg2/\gt ts 9=.int .i64 ((En:Nat):Int)/\gt ts 29=.agg [.int .i64 t0,.int .i64 t1,.int .i64 t2,.int .i64 t3]/\gt ts 30=.int .i64 (i:Int)/\H=[.cells .live [.int .i64 t0,.int .i64 t1,.int .i64 t2,.int .i64 t3,.str s0,.str s1,.str s2]]/\(g2<=12)/\(En<=12)) (a) ?_ ?_
  rotate_left
  ·refine⟨g,a,t,(by first|omega|rfl|simp),(by simp[bc,hl]),?_⟩;simp only[aY,hl,aa,ae,g1,g5,MP,Im]
   iterate 7 refine cI ?_
   refine⟨?_,?_⟩
   ·first|omega|trivial
   ·first|omega|trivial
  clear hl g1 g5 g6 MP Im ts;rintro k_ ts H ⟨g2,En,sg2,rfl,hl,g1,g5,g6,g9,MP,Im,rfl,hg2,CU⟩;refine VS ?_;by_cases haz:En=0
  ·subst haz;simp only[↓aL,aM,↓reduceIte,aa,ae,aE,hl,g9,Im,w1];refine bI ?_;refine⟨_,?_,i+1,g2,sg2,rfl,(by simp[bc,hl]),?_⟩
   ·first|omega|(simp;omega)
   simp only[aY,hl,aa,ae,g1,g5,g6,MP]
   iterate 6 refine cI ?_
   refine⟨?_,?_⟩
   ·omega
   ·omega
  ·have hab:((En:Int)!=0)=true:=bne_iff_ne.2 (by omega);have XF:=fun{c:Bool} {t:Nat}=>mC (E:=E) (c:=c) (t:=t) (k:=.i64) (a:=g2) (b:=En) haz
   have eh:=Nat.mod_lt g2 (show 0<En by omega);simp only[↓aL,aM,aa,ah,ae,hl,g5,g9,hab,XF,hpr];refine bI ?_;refine⟨_,?_,En,g2%En,sg2,rfl,(by simp[bc,hl]),?_⟩
   ·first|omega|(simp;omega)
   simp only[aY,hl,aa,ae,g1,g6,MP,Im]
   iterate 7 refine cI ?_
   refine⟨?_,?_⟩
   ·omega
   ·omega
 ·have hs:(sg==0)=false:=beq_eq_false_iff_ne.2 zR;simp only[↓aL,aM,aJ,↓reduceIte,aa,ae,hl,g6,MP,Im,dc',hs,vP,Ib,wn,Sx];refine cC (fun k_ ts H=>∃g2 En sg2,k_=0+En/\ts.length=60/\gt ts 1=.bK 0 0/\gt ts 5=.int .i64 ((g2:Nat):Int)/\gt ts 6=.int .i64 sg2/\gt ts 9=.int .i64 ((En:Nat):Int)/\gt ts 29=.agg [.int .i64 t0,.int .i64 t1,.int .i64 t2,.int .i64 t3]/\gt ts 30=.int .i64 (i:Int)/\H=[.cells .live [.int .i64 t0,.int .i64 t1,.int .i64 t2,.int .i64 t3,.str s0,.str s1,.str s2]]/\(g2<=12)/\(En<=12)) (a) ?_ ?_
  rotate_left
  ·refine⟨g,a,sg,(by first|omega|rfl|simp),(by simp[bc,hl]),?_⟩;simp only[aY,hl,aa,ae,g1,g5,g6,MP,Im]
   iterate 7 refine cI ?_
   refine⟨?_,?_⟩
   ·first|omega|trivial
   ·first|omega|trivial
  clear hl g1 g5 g6 MP Im ts;rintro k_ ts H ⟨g2,En,sg2,rfl,hl,g1,g5,g6,g9,MP,Im,rfl,hg2,CU⟩;refine VS ?_;by_cases haz:En=0
  ·subst haz;simp only[↓aL,aM,↓reduceIte,aa,ae,aE,hl,g9,Im,w1];refine bI ?_;refine⟨_,?_,i+1,g2,sg2,rfl,(by simp[bc,hl]),?_⟩
   ·first|omega|(simp;omega)
   simp only[aY,hl,aa,ae,g1,g5,g6,MP]
   iterate 6 refine cI ?_
   refine⟨?_,?_⟩
   ·omega
   ·omega
  ·have hab:((En:Int)!=0)=true:=bne_iff_ne.2 (by omega);have XF:=fun{c:Bool} {t:Nat}=>mC (E:=E) (c:=c) (t:=t) (k:=.i64) (a:=g2) (b:=En) haz
   have eh:=Nat.mod_lt g2 (show 0<En by omega);simp only[↓aL,aM,aa,ah,ae,hl,g5,g9,hab,XF,hpr];refine bI ?_;refine⟨_,?_,En,g2%En,sg2,rfl,(by simp[bc,hl]),?_⟩
   ·first|omega|(simp;omega)
   simp only[aY,hl,aa,ae,g1,g6,MP,Im]
   iterate 7 refine cI ?_
   refine⟨?_,?_⟩
   ·omega
   ·omega
structure qu where
 nm:List UInt8
 dn:Int
 cv:AV
 cl:List Cl
structure pE where
 nm:List UInt8
 pt:List UInt8
 t0:Int
 t1:Int
 t2:Int
 t3:Int
 s0:List UInt8
 s1:List UInt8
 s2:List UInt8
abbrev pX:Type:=List qu
abbrev Ins:Type:=List pE
def AS(p:qu):List AV:=[.str p.nm,.int .i64 p.dn,p.cv]
def yt(x:pE):List AV:=[.str x.nm,.str x.pt,.int .i64 x.t0,.int .i64 x.t1,.int .i64 x.t2,.int .i64 x.t3,.str x.s0,.str x.s1,.str x.s2]
def AR(l:pX):List AV:=(l.map AS).flatten
def C5(l:Ins):List AV:=(l.map yt).flatten
def SV(v:AV)(cs:List AV)(n:Nat):Prop:=v=.aK cs n∨(n=0/\(v=.aH∨v=.dw))
section
variable{v:AV}{cs:List AV}{n:Nat}
def SV.len(h:SV v cs n):lH v=some (n:Int):=by rcases h with rfl|⟨rfl,rfl|rfl⟩<;>rfl
def SV.one(h:SV v cs n):cN v=true:=by rcases h with rfl|⟨rfl,rfl|rfl⟩<;>rfl
def SV.root(h:SV v cs n):eg v=[]:=by rcases h with rfl|⟨rfl,rfl|rfl⟩<;>rfl
def SV.pure(h:SV v cs n):aU v=true:=by rcases h with rfl|⟨rfl,rfl|rfl⟩<;>simp only[aU]
def SV.cells(h:SV v cs n):v.cells=[v]:=by rcases h with rfl|⟨rfl,rfl|rfl⟩<;>rfl
def SV.flat(h:SV v cs n):Flat v:=by rcases h with rfl|⟨rfl,rfl|rfl⟩<;>exact fun _ _=>rfl
def SV.pos(h:SV v cs n)(hn:0<n):v=.aK cs n:=by
 rcases h with h|⟨h,_⟩
 ·exact h
 ·omega
end
def InC.sv{v:AV}{cl:List Cl}(h:InC v cl):SV v (cl.map (·.1)) cl.length:=by
 rcases h with h|⟨h,h2⟩
 ·exact .inl h
 ·exact .inr ⟨by rw[h];rfl,h2⟩
def Ij.sv{v:AV}{bG:List I3}(h:Ij v bG):SV v (oZ bG) bG.length:=by
 rcases h with h|⟨h,h2⟩
 ·exact .inl h
 ·exact .inr ⟨by rw[h];rfl,h2⟩
structure BW(p:qu):Prop where
 cv:InC p.cv p.cl
 cl:∀c∈p.cl,Ij c.1 c.2
def yK(l:pX):∀r∈l.map AS,r.length=3:=by intro r hr;obtain⟨p,_,rfl⟩:=aNg.1 hr;rfl
def qG(l:Ins):∀r∈l.map yt,r.length=9:=by intro r hr;obtain⟨p,_,rfl⟩:=aNg.1 hr;rfl
def DK{l:pX}{i:Nat}(hi:i<l.length):eW true 3 (AR l) (i*3)=some (.agg (AS l[i])):=by
 have h1:(l.map AS)[i]?=some (AS l[i]):=by rw[aM4,aL6 hi];rfl
 have h3:=iM (yK l) (j:=i) (by simpa using hi);unfold AR;rw[jd (s:=3) h3,jC (yK l) h1]
def zT{l:Ins}{i:Nat}(hi:i<l.length):eW true 9 (C5 l) (i*9)=some (.agg (yt l[i])):=by
 have h1:(l.map yt)[i]?=some (yt l[i]):=by rw[aM4,aL6 hi];rfl
 have h3:=iM (qG l) (j:=i) (by simpa using hi);unfold C5;rw[jd (s:=9) h3,jC (qG l) h1]
def cell_of_row{rows:List (List AV)}{s j q:Nat}{r:List AV}{x:AV}(hl:∀r∈rows,r.length=s)(hr:rows[j]?=some r)(hx:r[q]?=some x):rows.flatten[j*s+q]?=some x:=by
 have h1:=jC hl hr;have hq:q<s:=by have h2:=hl r (List.mem_of_getElem? hr);have h3:=(aLq.1 hx).1;omega
 have h2:((rows.flatten.drop (j*s)).take s)[q]?=some x:=by rw[h1];exact hx
 rw[List.getElem?_take_of_lt hq,List.getElem?_drop]at h2;exact h2
def KU{l:pX}{i q:Nat}(hi:i<l.length){x:AV}(hx:(AS l[i])[q]?=some x):eW false 1 (AR l) (i*3+q)=some x:=by
 rw[gI];exact cell_of_row (yK l) (by rw[aM4,aL6 hi];rfl) hx
def aAA{l:Ins}{i q:Nat}(hi:i<l.length){x:AV}(hx:(yt l[i])[q]?=some x):eW false 1 (C5 l) (i*9+q)=some x:=by
 rw[gI];exact cell_of_row (qG l) (by rw[aM4,aL6 hi];rfl) hx
def Rx(a b:List UInt8):nP E 20 9 (.str a) (.str b)=some (decide (a=b)):=by
 have h:kN E 9=true:=Ls C;unfold kN at h;unfold nP;cases hi:E.ty 9 with
 |none=>rw[hi]at h;cases h
 |some i=>
  rw[hi]at h;obtain⟨cD,jA,jS,jB,jZ,dK⟩:=i;cases cD<;>first|(cases h;done)|skip
  simp
  first|done|(by_cases e:a=b<;>simp[e])
def lC{α:Type}(p:α->Bool):List α->Nat->Option Nat
 |[],_=>none
 |x::l,i=>if p x then some i else lC p l (i+1)
def tC{α:Type}{p:α->Bool}:∀{l:List α} {i k:Nat},k<l.length->(∀j (hj:j<l.length),j<k->p l[j]=false)->(∀hk:k<l.length,p l[k]=true)->lC p l i=some (i+k)
 |[],_,_,h,_,_=>by cases h
 |x::l,i,0,_,_,h=>by
  have:=h (by simp)
  simp at this;simp[lC,this]
 |x::l,i,k+1,hk,hj,h=>by
  have h0:=hj 0 (by simp) (by omega);simp at h0;have ih:=tC (p:=p) (l:=l) (i:=i+1) (k:=k) (by simpa using hk) (fun j hl hjk=>by have:=hj (j+1) (by simpa using hl) (by omega);simpa using this) (fun Be=>by have:=h (by simpa using Be);simpa using this);simp only[lC,h0,ih]
  simp;omega
def tB{α:Type}{p:α->Bool}:∀{l:List α} {i:Nat},(∀x∈l,p x=false)->lC p l i=none
 |[],_,_=>rfl
 |x::l,i,h=>by simp[lC,h x (by simp),tB (l:=l) fun y hy=>h y (by simp[hy])]
def KM(l:pX)(s:List UInt8):Option Nat:=lC (fun p=>decide (p.nm=s)) l 0
def Jx(l:Ins)(s:List UInt8):Option Nat:=lC (fun p=>decide (p.nm=s)) l 0
def HZ{E:Env}{c:Bool}{a b:List UInt8}:cp E c .eql 9 (.str a) (.str b)=some (.bool (decide (a=b))):=by
 show Lr .eql a b=_
 simp only[Lr];by_cases e:a=b
 ·subst e;simp
 ·simp[e]
def aeR{E:Env}{c:Bool}{a b:List UInt8}:cp E c .neq 9 (.str a) (.str b)=some (.bool (!decide (a=b))):=by
 show Lr .neq a b=_
 simp only[Lr];by_cases e:a=b
 ·subst e;simp
 ·simp[e]
def L5(v:AV):Prop:=∃cs n,SV v cs n
def L5.facts{v:AV}(h:L5 v):cN v=true/\aU v=true/\eg v=[]/\v.cells=[v]:=by obtain⟨cs,n,h⟩:=h;exact⟨h.one,h.pure,h.root,h.cells⟩
def L5.flat{v:AV}(h:L5 v):Flat v:=by obtain⟨cs,n,h⟩:=h;exact h.flat
def L5.nil:L5 .aH:=⟨[],0,.inr ⟨rfl,.inl rfl⟩⟩
def BW.Uy{p:qu}(h:BW p):L5 p.cv:=⟨_,_,h.cv.sv⟩
def au2{s:List UInt8}:cN (.str s)=true:=rfl
def RE:List AV:=[.str [],.int .i64 0,.aH]
def pd0:qu:=⟨[],0,.aH,[]⟩
def AN(l:pX)(s:List UInt8):AV:=match KM l s with
 |some k=>.tuple [.agg (AS (l.getD k pd0)),.bool true]
 |none=>.tuple [.agg RE,.bool false]
def Ou{l:pX}{s:List UInt8}{i:Nat}(hi:i<l.length)(hq:∀j (hj:j<l.length),j<i->(l[j]).nm≠s)(h:(l[i]).nm=s):AN l s=.tuple [.agg (AS l[i]),.bool true]:=by
 have:=tC (p:=fun p:qu=>decide (p.nm=s)) (l:=l) (i:=0) (k:=i) hi (fun j hj xj=>bh (hq j hj xj)) (fun _=>bj h)
 unfold AN KM;rw[this]
 dsimp only
 rw[aL5,aT1,aL6 hi];rfl
def DF{l:pX}{s:List UInt8}(h:∀j (hj:j<l.length),(l[j]).nm≠s):AN l s=.tuple [.agg RE,.bool false]:=by
 have:=tB (p:=fun p:qu=>decide (p.nm=s)) (l:=l) (i:=0) (fun x hx=>by
  obtain⟨j,hj,rfl⟩:=aW2 hx;exact bh (h j hj))
 unfold AN KM;rw[this]
def Di{pv iv:AV}{l:pX}{s:List UInt8}(EF:SV pv (AR l) l.length)(hiv:L5 iv)(qp:∀p∈l,L5 p.cv)(hn:l.length<=4611686018427387904):
  aP E 9 [.agg [pv,iv],.str s]=some (AN l s):=by
 suffices hh:∃r,aP E 9 [.agg [pv,iv],.str s]=some r/\r=AN l s by obtain⟨r,h1,rfl⟩:=hh;exact h1
 have o8:=EF.len;have opv:=EF.one;have rpv:=EF.root;have oiv:=hiv.facts;refine oA fn9 ?_;intro ts hl g0 g1;unfold c9;simp only[↓aL,aM,aJ,Tryz.f9,g0];refine cC (fun k_ ts H=>∃i:Nat,k_=(l.length-i:Nat)/\ts.length=28/\gt ts 1=.str s/\gt ts 2=.bK 0 0/\gt ts 4=.bK 1 0/\gt ts 6=.int .i64 (i:Int)/\H=[.cells .live [pv,iv],.cells .live RE]/\(i<=l.length)/\(∀j (hj:j<l.length),j<i->(l[j]).nm≠s)) (l.length) ?_ ?_
 rotate_left
 ·refine⟨0,(by first|omega|rfl|simp),(by simp[bc,hl]),?_⟩;simp only[aY,hl,aa,ae,g1]
  iterate 5 refine cI ?_
  refine⟨?_,?_⟩
  ·first|omega|trivial
  ·first|(intro j _ hj;omega)|trivial
 clear hl g0 g1 ts;rintro k_ ts H ⟨i,rfl,hl,g1,g2,g4,g6,rfl,hi,hq⟩;refine VS ?_;unfold RE;by_cases hd:i<l.length
 rotate_left
 ·have d1:decide ((i:Int)<(l.length:Int))=false:=bh (by omega);simp only[↓aL,aM,aJ,↓reduceIte,aa,ah,ae,hl,g2,g4,g6,o8,d1];rw[DF fun j hj=>hq j hj (by omega)];rfl
 have d1:decide ((i:Int)<(l.length:Int))=true:=bj;have M6:=EF.pos (by omega);subst M6;have ci:=eP (i:=i) (n:=l.length) hd;have lP:=wz (z:=(i:Int)+1) (m:=i+1);have pa:=DK hd;have pn:=KU (q:=0) hd (x:=.str (l[i]).nm) rfl;rw[Nat.add_zero]at pn;have G4:=(qp _ (aMg hd)).facts;have BI:=fun{c:Bool}=>HZ (E:=E) (c:=c) (a:=(l[i]).nm) (b:=s)
 by_cases he:(l[i]).nm=s
 ·have hr:=Ou hd hq he;rw[bj he]at BI;generalize l[i]=p at pa pn G4 hr BI;obtain⟨nm,dn,cv,cl⟩:=p;simp only[AS]at pa hr;simp only[↓aL,aM,aJ,↓reduceIte,aa,ah,ae,hl,g1,g2,g4,g6,o8,ci,pa,pn,G4,BI];rw[hr]
 ·rw[bh he]at BI;have qo:∀j (hj:j<l.length),j<i+1->(l[j]).nm≠s:=by
   intro j hj xj;rcases aUh (aUl xj)with h|rfl
   ·exact hq j hj h
   ·exact he
  generalize l[i]=p at pa pn G4 BI;obtain⟨nm,dn,cv,cl⟩:=p;simp only[↓aL,aM,aJ,↓reduceIte,aa,ah,ae,hl,g1,g2,g6,o8,ci,lP,pn,BI];refine bI ?_;refine⟨_,?_,i+1,rfl,(by simp[bc,hl]),?_⟩
  ·first|omega|(simp;omega)
  simp only[aY,hl,aa,ae,g1,g2,g4]
  iterate 5 refine cI ?_
  refine⟨?_,?_⟩
  ·omega
  ·exact qo
def Js(l:Ins)(s:List UInt8):AV:=match Jx l s with
 |some k=>.tuple [.int .i64 (k:Int),.bool true]
 |none=>.tuple [.int .i64 0,.bool false]
def SK{l:Ins}{s:List UInt8}{i:Nat}(hi:i<l.length)(hq:∀j (hj:j<l.length),j<i->(l[j]).nm≠s)(h:(l[i]).nm=s):Js l s=.tuple [.int .i64 (i:Int),.bool true]:=by
 have:=tC (p:=fun p:pE=>decide (p.nm=s)) (l:=l) (i:=0) (k:=i) hi (fun j hj xj=>bh (hq j hj xj)) (fun _=>bj h)
 unfold Js Jx;rw[this]
 dsimp only
 rw[aL5]
def FH{l:Ins}{s:List UInt8}(h:∀j (hj:j<l.length),(l[j]).nm≠s):Js l s=.tuple [.int .i64 0,.bool false]:=by
 have:=tB (p:=fun p:pE=>decide (p.nm=s)) (l:=l) (i:=0) (fun x hx=>by
  obtain⟨j,hj,rfl⟩:=aW2 hx;exact bh (h j hj))
 unfold Js Jx;rw[this]
def Ks{pv iv:AV}{l:Ins}{s:List UInt8}(hiv:SV iv (C5 l) l.length)(EF:L5 pv)(hn:l.length<=4611686018427387904):
  aP E 11 [.agg [pv,iv],.str s]=some (Js l s):=by
 suffices hh:∃r,aP E 11 [.agg [pv,iv],.str s]=some r/\r=Js l s by obtain⟨r,h1,rfl⟩:=hh;exact h1
 have o8:=hiv.len;have oiv:=hiv.one;have riv:=hiv.root;have opv:=EF.facts;refine oA aye ?_;intro ts hl g0 g1;unfold c11;simp only[↓aL,aM,Tryz.f11,g0];refine cC (fun k_ ts H=>∃i:Nat,k_=(l.length-i:Nat)/\ts.length=23/\gt ts 1=.str s/\gt ts 2=.bK 0 0/\gt ts 6=.int .i64 (i:Int)/\H=[.cells .live [pv,iv]]/\(i<=l.length)/\(∀j (hj:j<l.length),j<i->(l[j]).nm≠s)) (l.length) ?_ ?_
 rotate_left
 ·refine⟨0,(by first|omega|rfl|simp),(by simp[bc,hl]),?_⟩;simp only[aY,hl,aa,ae,g1]
  iterate 4 refine cI ?_
  refine⟨?_,?_⟩
  ·first|omega|trivial
  ·first|(intro j _ hj;omega)|trivial
 clear hl g0 g1 ts;rintro k_ ts H ⟨i,rfl,hl,g1,g2,g6,rfl,hi,hq⟩;refine VS ?_;by_cases hd:i<l.length
 rotate_left
 ·have d1:decide ((i:Int)<(l.length:Int))=false:=bh (by omega);simp only[↓aL,aM,aJ,↓reduceIte,aa,ae,hl,g2,g6,o8,d1];rw[FH fun j hj=>hq j hj (by omega)]
 have d1:decide ((i:Int)<(l.length:Int))=true:=bj;have M6:=hiv.pos (by omega);subst M6;have ci:=eP (i:=i) (n:=l.length) hd;have lP:=wz (z:=(i:Int)+1) (m:=i+1);have pn:=aAA (q:=0) hd (x:=.str (l[i]).nm) rfl;rw[Nat.add_zero]at pn;have BI:=fun{c:Bool}=>HZ (E:=E) (c:=c) (a:=(l[i]).nm) (b:=s)
 by_cases he:(l[i]).nm=s
 ·have hr:=SK hd hq he;rw[bj he]at BI;simp only[↓aL,aM,aJ,↓reduceIte,aa,ae,hl,g1,g2,g6,o8,ci,pn,BI];rw[hr]
 ·rw[bh he]at BI;have qo:∀j (hj:j<l.length),j<i+1->(l[j]).nm≠s:=by
   intro j hj xj;rcases aUh (aUl xj)with h|rfl
   ·exact hq j hj h
   ·exact he
  simp only[↓aL,aM,aJ,↓reduceIte,aa,ae,hl,g1,g2,g6,o8,ci,lP,pn,BI];refine bI ?_;refine⟨_,?_,i+1,rfl,(by simp[bc,hl]),?_⟩
  ·first|omega|(simp;omega)
  simp only[aY,hl,aa,ae,g1,g2]
  iterate 4 refine cI ?_
  refine⟨?_,?_⟩
  ·omega
  ·exact qo
def yE(ks:List (List UInt8)):cE:=.map .live (ks.map AV.str) (ks.map fun _=>AV.bool true)
def gP(ks:List (List UInt8))(s:List UInt8):Int:=if wR s=true then(if s∈ks then 9 else 0)else 11
def CN{H:Hp}{b:Nat}{ks:List (List UInt8)}{s:List UInt8}(hb:H[b]?=some (yE ks))(hs:s.length<=4611686018427387904):
  cV E 32 [.eR b,.str s] H=some (.int .i64 (gP ks s),if gP ks s=0 then cO H b (yE (ks++[s]))else H):=by
 suffices hh:∃r H',cV E 32 [.eR b,.str s] H=some (r,H')/\(r=.int .i64 (gP ks s)/\H'=if gP ks s=0 then cO H b (yE (ks++[s]))else H)by obtain⟨r,H',h1,rfl,rfl⟩:=hh;exact h1
 have yn:=JA (E:=E) hs;have Qo:pQ E 84 9 4=true:=BL C;have heq:=fun a b=>Rx (E:=E) a b
 refine gi2 (gd C) (by rw[C.fn];exact ayv) (by decide) ?_;intro ts hl g0 g1;unfold c32;unfold gP;by_cases h1:wR s=true
 rotate_left
 ·rw[if_neg h1];have h1':wR s=false:=by simpa using h1
  rw[h1']at yn;simp only[↓aL,aM,↓aS,aJ,↓reduceIte,aa,ae,Tryz.f32,aF,hl,g1,yn]
 rw[if_pos h1];rw[h1]at yn;unfold yE at hb;by_cases h2:s∈ks
 ·rw[if_pos h2];obtain⟨q,hq,ym⟩:=rC (enc:=AV.str) (ok:=false) Qo heq hb (by simp) h2;rw[show((ks.map fun _=>AV.bool true).getD q bT)=.bool true by simp[aT1,hq]]at ym;simp only[aLT,if_false]at ym;simp only[↓aL,aM,↓aS,aJ,↓reduceIte,aa,ae,Tryz.f32,aF,hl,g0,g1,yn,ym]
 ·rw[if_neg h2];have ym:=uM (enc:=AV.str) (ok:=false) Qo heq hb (by simp) h2 (Ii (E:=E));have hup:=xf (enc:=AV.str) (v:=.bool true) Qo heq hb (by simp) h2;simp only[aLT,if_false]at ym;simp only[↓aL,aM,↓aS,aJ,↓reduceIte,aa,ae,Tryz.f32,hl,g0,g1,yn,ym,hup];simp[yE]
end Go.Proofs.YtmkjgfnicfpjpaaGreatDoor
