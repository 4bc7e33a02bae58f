/- A part of the proof that PairChecks returns true for every input; no condition of its own. -/
import Derived.Test.YtblnjkjjedanaaaGreatDoorTap
set_option linter.all false
set_option maxHeartbeats 100000000
set_option maxRecDepth 100000
open List renaming length_append->aMf,map_cons->aLJ,length_map->aTV,append_assoc->aRd,getD_eq_getElem?_getD->aQP,getElem?_append_left->aNq,getElem?_eq_getElem->aL5,take_length->aQV,all_eq_true->aLN,map_nil->aMi,not_mem_nil->aS7,mem_range->aWT,range->aWU,mem_cons->aMc,cons_append->aPr
open Rat renaming mul_comm->aWV
open Nat renaming reduceLT->aa,reduceEqDiff->ae,reduceAdd->ah,reduceLeDiff->ai,reduceBEq->aj,reduceMul->ak
open Int renaming reduceLE->an,reduceLT->ao,reduceToNat->aq,reduceGT->ar,reduceGE->au,reduceSub->aw,reduceAdd->aA,reduceNeg->aB,reduceMul->aC,reduceBEq->aD,reduceBNe->aE,reduceEq->aF,reduceNe->aG
namespace Go.Proofs.YtblnjkjjedanaaaGreatDoor
open Go Dv Dv.b7
open Go.Proofs.kY
variable{E:Env}[C:Ctx E]
theorem Ap{o:AV}{G:List (List Rat)}{k:Nat}(ho:vJ o G)(hw:nJ G 6)(hb:rH k G)(hk:k<=98000)(h0:G.length=2)(nN:aP E 8 [.agg [.int .i64 6,o,.aH]]=some (.int .i64 0))(HK:(dS (row G 0)).a≠v0){bb:Bool}(qo:aP E 29 [Cp (dS (row G 0)) 2,o]=some (.bool bb)):
  ∃r,aP E 9 [.agg [.int .i64 6,o,.aH]]=some (.tuple [r,.int .i64 0])/\∃k a0 a1 a2 b0 b1 b2 h,Cp (dS (row G 0)) 0=bO k 0 false a0 a1 a2 b0 b1 b2 h/\r=if bb=true then bO k 2 true a0 a1 a2 b0 b1 b2 h else eJ 8 2 true:=by
 suffices hh:∃u,aP E 9 [.agg [.int .i64 6,o,.aH]]=some u/\∃r,u=(.tuple [r,.int .i64 0])/\∃k a0 a1 a2 b0 b1 b2 h,Cp (dS (row G 0)) 0=bO k 0 false a0 a1 a2 b0 b1 b2 h/\r=if bb=true then bO k 2 true a0 a1 a2 b0 b1 b2 h else eJ 8 2 true by
  obtain⟨u,h1,r,rfl,h2⟩:=hh;exact⟨r,h1,h2⟩
 have R8:G.length<=6:=by omega
 have kO:=ho.len;have mo:=ho.mO;refine gv1 (C.ov _ _ (by decide)) (by rw[C.fn];exact fn9) rfl (by decide) ?_;intro ts hl g0;unfold c9;simp only[↓aN,aO,↓aQ,aJ,↓reduceIte,aa,ah,ae,Tryz.f9,aE,hl,g0,nN,mo,kO];refine ft (fun k_ ts H=>∃i w HC cs,k_=G.length-i/\ts.length=98/\gt ts 1=.b9 0 0/\gt ts 2=.b9 1 0/\gt ts 5=w/\gt ts 26=o/\gt ts 27=.int .i64 (G.length:Int)/\gt ts 28=.int .i64 (i:Int)/\H=HC/\(i<=G.length)/\(2<=HC.length)/\(HC[0]?=some (.cells .live [.int .i64 6,o,.aH]))/\(HC[1]?=some (.cells .live [.int .i64 0,.int .i64 0,.bool false,.str [],.str [],.str [],.str [],.str [],.str [],.str []]))/\(wW 24 2 w HC i cs)/\(oE cs (Ae (G.take i)))) (G.length) ?_ ?_
 rotate_left
 ·refine⟨0,.aH,[.cells .live [.int .i64 6,o,.aH],.cells .live [.int .i64 0,.int .i64 0,.bool false,.str [],.str [],.str [],.str [],.str [],.str [],.str []]],[],(by first|omega|rfl|(simp;done)),(by simp only[cP,hl]),?_⟩;simp only[cR,hl,aa,ae]
  iterate 7 refine⟨by first|trivial|rfl|(congr 1;omega)|(simp;done)|(simp;omega),?_⟩
  refine⟨?_,?_,?_,?_,?_,?_⟩
  ·omega
  ·simp
  ·rfl
  ·rfl
  ·exact .inl ⟨rfl,rfl,rfl⟩
  ·exact .nil
 clear hl g0 ts;rintro k_ ts H ⟨i,w,HC,cs,rfl,hl,g1,g2,g5,g26,OD,Kf,rfl,hi,hCl,Td,OH,pV,hT⟩;refine VS ?_;by_cases hd:i<G.length
 ·have dc:decide ((i:Int)<(G.length:Int))=true:=b8 (by omega);have mM:((i:Int)<(G.length:Int))=True:=eq_true (by omega);have w1:aX .i64 ((i:Int)+1)=((i+1:Nat):Int):=by rw[wrap_i64 (by omega) (by omega)];omega
  obtain⟨-,rfl⟩:=ho.resolve_left (fun h=>by rw[h.1]at hd;exact absurd hd (by simp));have p1:=fX (vs:=G.map dO) (i:=i) (by rw[aTV];exact hd);rw[Ag hd]at p1;obtain⟨a,ha,ia⟩:=DI (E:=E) (hw i hd) (hb i hd) hk;obtain⟨c,rfl,iD,vB,Es⟩:=fu ia;obtain⟨tc,htc⟩:∃tc,tc=(row G i).map (fun q=>AV.str (dh q)):=⟨_,rfl⟩;have XO:tc.length=6:=by rw[htc,aTV,hw i hd]
  have ag7:bE tc=true:=by
   rw[htc];generalize row G i=q;induction q with
   |nil=>rfl
   |cons x q ih=>simp only[aLJ,bE,aU,ih,Bool.and_self]
  have aiM:dO (row G i)=.aK tc 6:=by unfold dO;rw[<-htc,hw i hd]
  rw[<-htc]at ha;rw[aiM]at p1;have hs2:Kr E 78 (.aK tc 6)=some (.eX tc 0):=Si ac0;have aei:List.take 6 tc=tc:=by rw[<-XO,aQV]
  have YR:List.take 24 c=c:=by rw[<-iD,aQV]
  have pt6:fD true 6 tc 0=some (.agg tc):=by simp[fD,XO,aei]
  have km:∀aL,aT E aL 70 1 [(0,AV.agg c)]=some (.aI aL 0 1 24 1,[(aL,.cells .live c)]):=fun aL=>ee fC rfl (by decide) (by decide) iD
  have V8:=hT.len;have agY:(Ae (G.take i)).length=i:=by unfold Ae;rw[aTV,List.length_take];omega
  obtain⟨bU,H2,iR,Ac,t1,t2,t3⟩:=lQ (E:=E) (H:=H++[.cells .live c]) (x:=c) fC (by decide) (qz (l:=[.cells .live c]) (AZ pV)) (by rw[V8,agY]) iD vB (by unfold gO;omega) (by omega);have JC:(H++[cz.cells gu.live c]).length=H.length+1:=by rw[aMf];rfl
  rw[JC]at iR t1 t2 t3;simp only[aRd,aPr,List.nil_append,aMf,List.length_cons,List.length_nil,Nat.zero_add,ah]at iR Ac;have ah2:Ae (G.take (i+1))=Ae (G.take i)++[dS (row G i)]:=by unfold Ae;rw[List.take_add_one,List.map_append];congr 1;unfold row;rw[aL5 hd,aQP,aL5 hd];rfl
  simp only[↓aN,aO,↓aQ,aJ,dJ,↓reduceIte,aa,ah,ae,hl,g5,g26,OD,Kf,mM,w1,p1,hs2,pt6,ha,ag7,iD,vB,YR,km,iR,Ac,Nat.add_assoc,aRd,aMf];refine dG ?_;refine⟨_,?_,i+1,(.aI (H.length+2) 0 (i+1) 24 (i+1)),H2,(cs++c),rfl,(by simp only[cP,hl]),?_⟩
  ·first|omega|(simp;omega)
  simp only[cR,hl,aa,ae,g1,g2,g26,OD]
  iterate 7 refine⟨by first|trivial|rfl|(congr 1;omega)|(simp;done)|(simp;omega),?_⟩
  refine⟨?_,?_,?_,?_,?_,?_⟩
  ·omega
  ·omega
  ·rw[t3 0 (by omega) (oP pV (by omega)),aNq (by omega)];exact Td
  ·rw[t3 1 (by omega) (oP pV (by omega)),aNq (by omega)];exact OH
  ·exact .inr ⟨by omega,H.length+2,by omega,by omega,rfl,t1⟩
  ·rw[ah2];exact hT.app ia iD
 ·have dc:decide ((i:Int)<(G.length:Int))=false:=cg (by omega);obtain rfl:i=G.length:=by omega
  rw[aQV]at hT;have wR:k9 w=some (G.length:Int):=by
   rcases pV with⟨h0,-,rfl⟩|⟨-,b,-,-,rfl,-⟩
   ·rw[h0];rfl
   ·rfl
  have c0:=fun l o=>lU (T:=H) (l:=l) (o:=o) (show 0<H.length by omega)
  have Px:=fun o=>kR (o:=o) Td (by decide)
  have a0L:=fun n l o=>pC (T:=H) (n:=n) (l:=l) (o:=o) (show 0<H.length by omega)
  have a0F:=fun n o=>pk (n:=n) (o:=o) Td (by decide)
  have a1L:=fun n l o=>pC (T:=H) (n:=n) (l:=l) (o:=o) (show 1<H.length by omega)
  have QT:=fun n xs l o=>sJ (T:=H) (n:=n) (xs:=xs) (l:=l) (o:=o) (show 1<H.length by omega)
  have QJ:=fun n xs o=>pn (n:=n) (xs:=xs) (o:=o) OH
  have Rb:=fun x l=>rW (T:=H) (l:=l) (x:=x) (show 1<H.length by omega)
  have aS:=fun n cs l o=>W0 (H:=H) (n:=n) (b:=1) (cs:=cs) (l:=l) (o:=o) (show 1<H.length by omega)
  have zH:E.pairs 29 10=[(3,7),(4,7)]:=eR C rfl;have uL:k9 AV.aH=some 0:=rfl;have Z1:0<G.length->∃b,b<H.length/\w=.aI b 0 G.length 24 G.length/\H[b]?=some (.cells .live cs)/\∀l,ow false (H++l) [.aI b 0 G.length 24 G.length]=some ([.aK cs G.length],[b]):=by
   intro h0;rcases pV with⟨h1,-,-⟩|⟨-,b,f1,f2,f3,f4⟩
   ·omega
   ·exact⟨b,f2,f3,f4,fun l=>iJ (st:=.live) (by rw[aNq f2];exact f4) (by decide) (by rw[hT.len];unfold Ae;rw[aTV]) hT.flat⟩
  have afZ:=fun{dr st:Bool} {bl:List AV} {H:Hp} {k:AV->cE->Prop}=>gn (E:=E) (dr:=dr) (st:=st) (f:=24) (bl:=bl) (H:=H) (k:=k) (bS C (by kernel_rfl))
  have NU:=fun{dr st:Bool} {bl:List AV} {H:Hp} {k:AV->cE->Prop}=>gn (E:=E) (dr:=dr) (st:=st) (f:=25) (bl:=bl) (H:=H) (k:=k) (bS C (by kernel_rfl))
  have SH:=fun{dr st:Bool} {bl:List AV} {H:Hp} {k:AV->cE->Prop}=>gn (E:=E) (dr:=dr) (st:=st) (f:=26) (bl:=bl) (H:=H) (k:=k) (bS C (by kernel_rfl))
  have W7:=fun{dr st:Bool} {bl:List AV} {H:Hp} {k:AV->cE->Prop}=>gn (E:=E) (dr:=dr) (st:=st) (f:=27) (bl:=bl) (H:=H) (k:=k) (bS C (by kernel_rfl))
  have D0:∀j,j<G.length->(Ae G).getD j ⟨v0,v0⟩=dS (row G j):=by intro j hj;unfold Ae row;rw[aQP,List.getElem?_map,aQP,aL5 hj];rfl
  ·rw[h0,show((2:Nat):Int)=2 from rfl]at wR;obtain⟨b,VM,rfl,hbH,gg⟩:=Z1 (by omega);have bL:=fun n l o=>pC (T:=H) (n:=n) (l:=l) (o:=o) VM
   have bF:=fun n o=>pk (n:=n) (o:=o) hbH (by decide)
   have hT2:oE cs [dS (row G 0),dS (row G 1)]:=by
    have:Ae G=[dS (row G 0),dS (row G 1)]:=by
     refine oN (d:=⟨v0,v0⟩) (by unfold Ae;rw[aTV,h0];rfl) (fun j hj=>?_);unfold Ae at hj;rw[aTV,h0]at hj;rw[D0 j (by omega)]
     match j,hj with
     |0,_=>rfl
     |1,_=>rfl
    rw[<-this];exact hT
   obtain⟨e0,e1,rfl,q0,q1⟩:=tw2 hT2;have l1:=xe q1;have VW:=qT (hw 0 (by omega)) (hb 0 (by omega));obtain⟨J8,Km,Kz,JK,Ng,MV,N1,Nc,ND,Ol,NW,Oe,G6,G3,Hg,Hb,GB,E7,U7,T4,VR,Vz,VG,VJ,e,ha,hbb⟩:=id q0;simp only[AV.agg.injEq]at e;subst e;have A:=bP ha;have hz:=gH (E:=E) ha VW.1 (by omega);rw[h0]at gg g5 wR;simp only[↓aN,aO,aJ,dJ,↓reduceIte,aa,ah,ae,ai,aD,hl,g5,OD,Kf,sR,xk,wJ,MF,Lu,L7,wR,ano,dc,aRd,aMf]
   ·rw[cg HK]at hz;have hcy:=yW (E:=E) q0 l1 VW (by omega) HK;unfold Cp bO at hcy qo;simp only[aPr,List.nil_append]at hcy;refine ew 2 ?_;cases bb with
    |true=>
     simp only[↓aN,aO,↓aQ,aJ,dJ,↓reduceIte,aa,ah,ak,ae,an,ao,aq,ai,ar,hl,g1,g2,g5,wR,c0,Px,QT,QJ,Rb,nF,mo,uL,aS,zH,bL,bF,hz,A,l1,NU,gg,hcy,qo,aRd,aMf];exact⟨_,rfl,_,_,_,_,_,_,_,_,rfl,rfl⟩
    |false=>
     simp only[↓aN,aO,↓aQ,aJ,dJ,↓reduceIte,aa,ah,ak,ae,an,ao,aq,ai,ar,aA,hl,g1,g2,g5,wR,c0,Px,QT,QJ,Rb,nF,mo,uL,aS,zH,bL,bF,hz,A,l1,uj,NU,gg,hcy,qo,aRd,aMf];exact⟨_,rfl,_,_,_,_,_,_,_,_,rfl,rfl⟩
def YP(L:List (List Rat))(ps:List Nat):Bool:=(aWU L.length).all fun i=>decide (ps.getD i 0<6)&&((aWU L.length).all fun j=>(!decide (i<j)||decide (ps.getD i 0<ps.getD j 0))&&decide (iN L i (ps.getD j 0)=if i=j then 1 else 0))&&(aWU (ps.getD i 0)).all fun c=>decide (iN L i c=0)
theorem FY{L:List (List Rat)}{ps:List Nat}(h:YP L ps=true):rN 6 L.length (fun i=>iN L i) (fun i=>ps.getD i 0) (gy (SR L.length (rf L))):=by
 unfold YP at h;have h1:∀i,i<L.length->ps.getD i 0<6/\(∀j,j<L.length->(i<j->ps.getD i 0<ps.getD j 0)/\iN L i (ps.getD j 0)=if i=j then 1 else 0)/\∀c,c<ps.getD i 0->iN L i c=0:=by
  intro i hi;have h2:=aLN.1 h i (aWT.2 hi);simp only[Bool.and_eq_true,decide_eq_true_eq,aLN,aWT,Bool.or_eq_true,Bool.not_eq_true',decide_eq_false_iff_not]at h2;obtain⟨⟨h3,h4⟩,h5⟩:=h2;refine⟨h3,fun j hj=>⟨fun G8=>?_,(h4 j hj).2⟩,h5⟩;rcases(h4 j hj).1 with h6|h6
  ·exact absurd G8 h6
  ·exact h6
 have fZ:St 6 L.length 6 L.length (fun t=>t) (rf L) (fun i=>ps.getD i 0) (gy (SR L.length (rf L))):=by refine⟨Nat.le_refl _,fun i hi=>(h1 i hi).1,fun i j G8 hj=>((h1 i (by omega)).2.1 j hj).1 G8,fun i j hi hj=>((h1 i hi).2.1 j hj).2,fun i t hi ht=>(h1 i hi).2.2 t ht,fun i t h2 h3=>absurd h3 (by omega),fun x=>Iff.rfl⟩
 exact fZ.ech (Nat.le_refl 6) (fun i h2 h3=>absurd h3 (by omega))
def abA(L:List (List Rat)):Bool:=(aWU L.length).all fun i=>(row L i).length==6
theorem pP{L:List (List Rat)}(h:abA L=true):nJ L 6:=by
 intro i hi
 have:=aLN.1 h i (aWT.2 hi)
 simpa using this
def N8(l:List Int):List Rat:=l.map fun z:Int=>(z:Rat)
theorem Am{z0 z1 z2 z3 z4 z5:Int}(h:∀z∈[z0,z1,z2,z3,z4,z5],z.natAbs<=1):CV 1 (fv (N8 [z0,z1,z2,z3,z4,z5])):=by
 have e:N8 [z0,z1,z2,z3,z4,z5]=[(z0:Rat)/((1:Int):Rat),(z1:Rat)/((1:Int):Rat),(z2:Rat)/((1:Int):Rat),(z3:Rat)/((1:Int):Rat),(z4:Rat)/((1:Int):Rat),(z5:Rat)/((1:Int):Rat)]:=by
  have h1:((1:Int):Rat)=1:=rfl;unfold N8;rw[h1];simp only[aLJ,aMi,List.cons.injEq,and_true];refine⟨?_,?_,?_,?_,?_,?_⟩<;>grind
 rw[e];refine oV (by decide) (by decide) (fun z hz=>?_)
 have:=h z hz
 omega
theorem QO{R L:List (List Rat)}{P:Nat->Nat}{ps:List Nat}(hE:rN 6 R.length (fun i=>iN R i) P (gy (SR L.length (rf L))))(hw:nJ R 6)(hL:YP L ps=true)(SE:abA L=true):R=L:=
 Fv (oZ _) hE (FY hL) hw (pP SE)
theorem OV{lv:AV}{L:List (List Rat)}{ps:List Nat}(he:vJ lv L)(hcr:CR 1 L)(hl:L.length<=2)(hL:YP L ps=true)(SE:abA L=true):
  ∃o,aP E 7 [.int .i64 6,lv,.aH]=some (.tuple [.agg [.int .i64 6,o,.aH],.int .i64 0])/\vJ o L:=by
 have hs:Small 6 1 L.length:=by refine⟨by decide,by decide,?_,by omega⟩;have h1:2^L.length<=2^2:=Nat.pow_le_pow_right (by omega) hl;have h2:=Nat.mul_le_mul_right 2 h1;exact Nat.le_trans h2 (by decide)
 obtain⟨o,G,P,ho,hx,hw,hE⟩:=zu (E:=E) (n:=6) he (pP SE) (by omega) (by omega) hcr hs;obtain rfl:=QO hE hw hL SE;exact⟨o,ho,hx⟩
theorem WW{o:AV}{L:List (List Rat)}{ps:List Nat}(ho:vJ o L)(hcr:CR 1 L)(hl:L.length<=2)(hL:YP L ps=true)(SE:abA L=true):
  aP E 8 [.agg [.int .i64 6,o,.aH]]=some (.int .i64 0):=by
 obtain⟨c,hC⟩:=Nf (pP SE) hcr (by omega) (by omega) (pP SE) (FY hL);exact DE (E:=E) (n:=6) ho hC
def rA:List Rat:=N8 [0,0,1,0,-1,0]
def rB:List Rat:=N8 [0,0,0,0,0,1]
def rC:List Rat:=N8 [1,0,0,0,0,0]
def rD:List Rat:=N8 [0,1,0,0,0,0]
def rF:List Rat:=N8 [0,0,0,1,0,0]
theorem cvA:CV 1 (fv rA):=Am (by decide)
theorem cvB:CV 1 (fv rB):=Am (by decide)
theorem cvC:CV 1 (fv rC):=Am (by decide)
theorem cvD:CV 1 (fv rD):=Am (by decide)
theorem cr1{a:List Rat}(h:CV 1 (fv a)):CR 1 [a]:=by
 intro i hi
 match i,hi with
 |0,_=>exact h
theorem cr2{a b:List Rat}(h:CV 1 (fv a))(h':CV 1 (fv b)):CR 1 [a,b]:=by
 intro i hi
 match i,hi with
 |0,_=>exact h
 |1,_=>exact h'
section
variable{E:Env} [C:Ctx E]
def iV(l:List Int):AV:=.aK (l.map fun z=>.int .i64 z) 6
theorem awW:aP E 17 [iV [0,0,1,0,-1,0]]=some (dO rA):=kr (n:=400) (by kernel_rfl) (by kernel_rfl)
theorem auT:aP E 17 [iV [0,0,0,0,0,1]]=some (dO rB):=kr (n:=400) (by kernel_rfl) (by kernel_rfl)
theorem awZ:aP E 17 [iV [1,0,0,0,0,0]]=some (dO rC):=kr (n:=400) (by kernel_rfl) (by kernel_rfl)
theorem azo:aP E 17 [iV [0,1,0,0,0,0]]=some (dO rD):=kr (n:=400) (by kernel_rfl) (by kernel_rfl)
theorem avZ{o:AV}(ho:vJ o [rA]):aP E 9 [.agg [.int .i64 6,o,.aH]]=some (.tuple [bO 1 1 true [48] [48] [49] [49] [48] [48] [],.int .i64 0]):=by
 obtain⟨r,hr,hc⟩:=zm (E:=E) (b:=1) (pP (by kernel_rfl)) (cr1 cvA) (by omega) (by decide) ho (pP (by kernel_rfl)) (FY (ps:=[2]) (by kernel_rfl));rcases hc with⟨h0,-⟩|⟨h0,-⟩|⟨h0,-,-⟩|⟨-,k,a0,a1,a2,b0,b1,b2,h,e,rfl⟩|⟨h0,-⟩|⟨h0,-⟩
 ·exact absurd h0 (by decide)
 ·exact absurd h0 (by decide)
 ·exact absurd h0 (by decide)
 ·have e2:sZ (dS (row [rA] 0)) 0=bO 1 0 false [48] [48] [49] [49] [48] [48] []:=by kernel_rfl
  rw[e2]at e;unfold bO at e;simp only[AV.agg.injEq,List.cons.injEq,AV.int.injEq,AV.str.injEq,true_and,and_true]at e;obtain⟨rfl,rfl,rfl,rfl,rfl,rfl,rfl,rfl⟩:=e;exact hr
 ·exact absurd h0 (by decide)
 ·exact absurd h0 (by decide)
theorem vV1:cT 65536 [48] [48] [49]=⟨0,0,1⟩:=by kernel_rfl
theorem vV2:cT 65536 [49] [48] [48]=⟨1,0,0⟩:=by kernel_rfl
theorem vV3:cT 65536 [48] [48] [48]=⟨0,0,0⟩:=by kernel_rfl
theorem auC{o:AV}(ho:vJ o [rA,rB]):aP E 9 [.agg [.int .i64 6,o,.aH]]=some (.tuple [bO 4 2 true [48] [48] [49] [49] [48] [48] [],.int .i64 0]):=by
 have hw:nJ [rA,rB] 6:=pP (by kernel_rfl);have nN:=WW (E:=E) (ps:=[2,5]) ho (cr2 cvA cvB) (by decide) (by kernel_rfl) (by kernel_rfl);have bv:∀s0 s1 s2:List UInt8,s0.length+s1.length+s2.length<=60->BV 201 (cT 65536 s0 s1 s2):=fun s0 s1 s2 h=>sK.bits (uz h)
 obtain⟨v,hv,hT⟩:=qJ (E:=E) (d:=2) (cl:=false) (a0:=[48]) (a1:=[48]) (a2:=[49]) (b0:=[49]) (b1:=[48]) (b2:=[48]) (h:=[]) (by decide) (by decide) (by decide) (by decide) (by decide) (by decide) (bv _ _ _ (by decide)) (bv _ _ _ (by decide)) (by omega);rw[vV1,vV2]at hT;have V9:(ed ⟨0,0,1⟩ ⟨1,0,0⟩).qs=rA:=by kernel_rfl
 have NK:(kd ⟨0,0,1⟩).qs=rB:=by kernel_rfl
 obtain⟨K,P,qo,hKw,hKE⟩:=nE (E:=E) (b:=1) hv hT (by
  intro t ht;simp only[aMc,aS7,or_false]at ht;rcases ht with rfl|rfl
  ·rw[V9];exact cvA
  ·rw[NK];exact cvB) (by omega) (by simp) ho hw (by decide)
 have hrt:jI [ed ⟨0,0,1⟩ ⟨1,0,0⟩,kd ⟨0,0,1⟩]=[rA,rB]:=by unfold jI;rw[aLJ,aLJ,aMi,V9,NK]
 rw[hrt]at hKE;have hKG:K=[rA,rB]:=QO (L:=[rA,rB]) (ps:=[2,5]) hKE hKw (by kernel_rfl) (by kernel_rfl);rw[b8 hKG]at qo;have e2:Cp (dS (row [rA,rB] 0)) 2=bO 4 2 false [48] [48] [49] [49] [48] [48] []:=by kernel_rfl
 have e0:Cp (dS (row [rA,rB] 0)) 0=bO 4 0 false [48] [48] [49] [49] [48] [48] []:=by kernel_rfl
 obtain⟨r,hr,k,a0,a1,a2,b0,b1,b2,h,e,rfl⟩:=Ap (E:=E) (k:=2) ho hw (cr2 cvA cvB).ME (by omega) rfl nN (by
  intro e
  have:(dS (row [rA,rB] 0)).a=⟨0,0,1⟩:=by kernel_rfl
  rw[this]at e;exact absurd e (by unfold v0;simp)) (bb:=true) (by rw[e2];exact qo)
 rw[e0]at e;unfold bO at e;simp only[AV.agg.injEq,List.cons.injEq,AV.int.injEq,AV.str.injEq,true_and,and_true]at e;obtain⟨rfl,rfl,rfl,rfl,rfl,rfl,rfl,rfl⟩:=e;exact hr
theorem awE{o:AV}(ho:vJ o [rC,rD]):aP E 9 [.agg [.int .i64 6,o,.aH]]=some (.tuple [eJ 8 2 true,.int .i64 0]):=by
 have hw:nJ [rC,rD] 6:=pP (by kernel_rfl);have nN:=WW (E:=E) (ps:=[0,1]) ho (cr2 cvC cvD) (by decide) (by kernel_rfl) (by kernel_rfl);have bv:∀s0 s1 s2:List UInt8,s0.length+s1.length+s2.length<=60->BV 201 (cT 65536 s0 s1 s2):=fun s0 s1 s2 h=>sK.bits (uz h)
 obtain⟨v,hv,hT⟩:=qJ (E:=E) (d:=2) (cl:=false) (a0:=[49]) (a1:=[48]) (a2:=[48]) (b0:=[48]) (b1:=[48]) (b2:=[48]) (h:=[]) (by decide) (by decide) (by decide) (by decide) (by decide) (by decide) (bv _ _ _ (by decide)) (bv _ _ _ (by decide)) (by omega);rw[vV2,vV3]at hT;have V9:(ed ⟨1,0,0⟩ ⟨0,0,0⟩).qs=rC:=by kernel_rfl
 have NK:(kd ⟨1,0,0⟩).qs=rF:=by kernel_rfl
 obtain⟨K,P,qo,hKw,hKE⟩:=nE (E:=E) (b:=1) hv hT (by
  intro t ht;simp only[aMc,aS7,or_false]at ht;rcases ht with rfl|rfl
  ·rw[V9];exact cvC
  ·rw[NK];exact Am (by decide)) (by omega) (by simp) ho hw (by decide)
 have hrt:jI [ed ⟨1,0,0⟩ ⟨0,0,0⟩,kd ⟨1,0,0⟩]=[rC,rF]:=by unfold jI;rw[aLJ,aLJ,aMi,V9,NK]
 rw[hrt]at hKE;have hKG:K=[rC,rF]:=QO (L:=[rC,rF]) (ps:=[0,3]) hKE hKw (by kernel_rfl) (by kernel_rfl);have dY:¬K=[rC,rD]:=by
  rw[hKG];intro e;simp only[List.cons.injEq,true_and,and_true]at e
  have:=congrArg (fun l=>l.getD 1 0) e
  have h1:rF.getD 1 0=0:=by kernel_rfl
  have h2:rD.getD 1 0=1:=by kernel_rfl
  simp only[h1,h2]at this;exact absurd this (by decide)
 rw[cg dY]at qo;have e2:Cp (dS (row [rC,rD] 0)) 2=bO 4 2 false [49] [48] [48] [48] [48] [48] []:=by kernel_rfl
 obtain⟨r,hr,k,a0,a1,a2,b0,b1,b2,h,e,rfl⟩:=Ap (E:=E) (k:=2) ho hw (cr2 cvC cvD).ME (by omega) rfl nN (by
  intro e
  have:(dS (row [rC,rD] 0)).a=⟨1,0,0⟩:=by kernel_rfl
  rw[this]at e;exact absurd e (by unfold v0;simp)) (bb:=false) (by rw[e2];exact qo)
 exact hr
end
section
variable{E:Env} [C:Ctx E]
theorem awJ{aL:Nat}{z0 z1 z2 z3 z4 z5:Int}:aT E aL 91 6 [(0,.int .i64 z0),(1,.int .i64 z1),(2,.int .i64 z2),(3,.int .i64 z3),(4,.int .i64 z4),(5,.int .i64 z5)]=some (.aI aL 0 6 1 6,[(aL,.cells .live [.int .i64 z0,.int .i64 z1,.int .i64 z2,.int .i64 z3,.int .i64 z4,.int .i64 z5])]):=by
 rw[nj C]
 kernel_rfl
theorem agu{aL n:Nat}{a:List AV}:aT E aL 24 1 [(0,.aK a n)]=some (.aI aL 0 1 1 1,[(aL,.cells .live [.aK a n])]):=by
 rw[nj C]
 kernel_rfl
theorem akb{aL n m:Nat}{a b:List AV}:aT E aL 24 2 [(0,.aK a n),(1,.aK b m)]=some (.aI aL 0 2 1 2,[(aL,.cells .live [.aK a n,.aK b m])]):=by
 rw[nj C]
 kernel_rfl
end
theorem QV:aP E 5 []=some (.bool true):=by
 refine dX ?_;obtain⟨oA,gA,xA⟩:=OV (E:=E) (lv:=.aK [dO rA] 1) (L:=[rA]) (ps:=[2]) (.inr ⟨by simp,rfl⟩) (cr1 cvA) (by decide) (by kernel_rfl) (by kernel_rfl);obtain⟨oB,gB,xB⟩:=OV (E:=E) (lv:=.aK [dO rA,dO rB] 2) (L:=[rA,rB]) (ps:=[2,5]) (.inr ⟨by simp,rfl⟩) (cr2 cvA cvB) (by decide) (by kernel_rfl) (by kernel_rfl);obtain⟨oC,gC,xC⟩:=OV (E:=E) (lv:=.aK [dO rC,dO rD] 2) (L:=[rC,rD]) (ps:=[0,1]) (.inr ⟨by simp,rfl⟩) (cr2 cvC cvD) (by decide) (by kernel_rfl) (by kernel_rfl);have cA:=avZ (E:=E) xA;have cB:=auC (E:=E) xB;have cC:=awE (E:=E) xC;obtain⟨wA,rfl⟩:∃w,oA=.aK w 1:=⟨_,(xA.resolve_left (fun h=>absurd h.1 (by simp))).2⟩;obtain⟨wB,rfl⟩:∃w,oB=.aK w 2:=⟨_,(xB.resolve_left (fun h=>absurd h.1 (by simp))).2⟩;obtain⟨wC,rfl⟩:∃w,oC=.aK w 2:=⟨_,(xC.resolve_left (fun h=>absurd h.1 (by simp))).2⟩;have rfv:∀(a:List AV) (n:Nat),bR (.aK a n)=false:=fun _ _=>rfl
 have rft:∀(a:List AV) (n:Nat),bR (.tuple [.agg [.int .i64 6,.aK a n,.aH],.int .i64 0])=false:=fun _ _=>rfl
 have rfj:∀(k d:Int) (cl:Bool) (a0 a1 a2 b0 b1 b2 h:List UInt8),bR (.tuple [.agg [.int .i64 k,.int .i64 d,.bool cl,.str a0,.str a1,.str a2,.str b0,.str b1,.str b2,.str h],.int .i64 0])=true:=fun _ _ _ _ _ _ _ _ _ _=>rfl
 have q1:∀c,dC E c .eql 39 (.agg [.int .i64 1,.int .i64 1,.bool true,.str [48],.str [48],.str [49],.str [49],.str [48],.str [48],.str []]) (.agg [.int .i64 1,.int .i64 1,.bool true,.str [48],.str [48],.str [49],.str [49],.str [48],.str [48],.str []])=some (.bool true):=by rw[nj C];intro c;kernel_rfl
 have q2:∀c,dC E c .eql 37 (.agg [.str [49],.str [48],.str [48]]) (.agg [.str [49],.str [48],.str [48]])=some (.bool true):=by rw[nj C];intro c;kernel_rfl
 have q3:∀c,dC E c .eql 39 (.agg [.int .i64 8,.int .i64 2,.bool true,.str [],.str [],.str [],.str [],.str [],.str [],.str []]) (.agg [.int .i64 8,.int .i64 2,.bool true,.str [],.str [],.str [],.str [],.str [],.str [],.str []])=some (.bool true):=by rw[nj C];intro c;kernel_rfl
 have q4:∀c,dC E c .eql 9 (.str (nameOf 3)) (.str [104,101,108,105,99,97,108])=some (.bool true):=by rw[nj C];intro c;kernel_rfl
 have mA:=xA.mO;have mB:=xB.mO;have mC:=xC.mO;have nA:=awW (E:=E);have nB:=auT (E:=E);have nC:=awZ (E:=E);have nD:=azo (E:=E);have hn:=IB (E:=E) (z:=3);obtain⟨tA,hA⟩:∃tA,tA=rA.map fun x=>AV.str (dh x):=⟨_,rfl⟩
 obtain⟨tB,hB⟩:∃tA,tA=rB.map fun x=>AV.str (dh x):=⟨_,rfl⟩
 obtain⟨tC,hC⟩:∃tA,tA=rC.map fun x=>AV.str (dh x):=⟨_,rfl⟩
 obtain⟨tD,hD⟩:∃tA,tA=rD.map fun x=>AV.str (dh x):=⟨_,rfl⟩
 have eA:dO rA=.aK tA 6:=by rw[hA];rfl
 have eB:dO rB=.aK tB 6:=by rw[hB];rfl
 have eC:dO rC=.aK tC 6:=by rw[hC];rfl
 have eD:dO rD=.aK tD 6:=by rw[hD];rfl
 rw[eA]at gA gB nA;rw[eB]at gB nB;rw[eC]at gC nC;rw[eD]at gC nD;unfold iV at nA nB nC nD;simp only[aLJ,aMi]at nA nB nC nD;clear hA hB hC hD eA eB eC eD;have fi0:∀(z0 z1 z2 z3 z4 z5:Int),ow false [.cells .live [.int .i64 z0,.int .i64 z1,.int .i64 z2,.int .i64 z3,.int .i64 z4,.int .i64 z5]] [.aI 0 0 6 1 6]=some ([.aK [.int .i64 z0,.int .i64 z1,.int .i64 z2,.int .i64 z3,.int .i64 z4,.int .i64 z5] 6],[0]):=by intros;rfl
 have fi3:∀(y0 y1 y2:cz) (z0 z1 z2 z3 z4 z5:Int),ow false [y0,y1,y2,.cells .live [.int .i64 z0,.int .i64 z1,.int .i64 z2,.int .i64 z3,.int .i64 z4,.int .i64 z5]] [.aI 3 0 6 1 6]=some ([.aK [.int .i64 z0,.int .i64 z1,.int .i64 z2,.int .i64 z3,.int .i64 z4,.int .i64 z5] 6],[3]):=by intros;rfl
 have fi4:∀(y0 y1 y2 y3:cz) (z0 z1 z2 z3 z4 z5:Int),ow false [y0,y1,y2,y3,.cells .live [.int .i64 z0,.int .i64 z1,.int .i64 z2,.int .i64 z3,.int .i64 z4,.int .i64 z5]] [.aI 4 0 6 1 6]=some ([.aK [.int .i64 z0,.int .i64 z1,.int .i64 z2,.int .i64 z3,.int .i64 z4,.int .i64 z5] 6],[4]):=by intros;rfl
 have fi7:∀(y0 y1 y2 y3 y4 y5 y6:cz) (z0 z1 z2 z3 z4 z5:Int),ow false [y0,y1,y2,y3,y4,y5,y6,.cells .live [.int .i64 z0,.int .i64 z1,.int .i64 z2,.int .i64 z3,.int .i64 z4,.int .i64 z5]] [.aI 7 0 6 1 6]=some ([.aK [.int .i64 z0,.int .i64 z1,.int .i64 z2,.int .i64 z3,.int .i64 z4,.int .i64 z5] 6],[7]):=by intros;rfl
 have fi8:∀(y0 y1 y2 y3 y4 y5 y6 y7:cz) (z0 z1 z2 z3 z4 z5:Int),ow false [y0,y1,y2,y3,y4,y5,y6,y7,.cells .live [.int .i64 z0,.int .i64 z1,.int .i64 z2,.int .i64 z3,.int .i64 z4,.int .i64 z5]] [.aI 8 0 6 1 6]=some ([.aK [.int .i64 z0,.int .i64 z1,.int .i64 z2,.int .i64 z3,.int .i64 z4,.int .i64 z5] 6],[8]):=by intros;rfl
 have fg1:∀(y0:cz) (a:List AV) (n:Nat),ow false [y0,.cells .live [.aK a n]] [.int .i64 6,.aI 1 0 1 1 1,.aH]=some ([.int .i64 6,.aK [.aK a n] 1,.aH],[1]):=by intros;rfl
 have fg5:∀(y0 y1 y2 y3 y4:cz) (a a':List AV) (n m:Nat),ow false [y0,y1,y2,y3,y4,.cells .live [.aK a n,.aK a' m]] [.int .i64 6,.aI 5 0 2 1 2,.aH]=some ([.int .i64 6,.aK [.aK a n,.aK a' m] 2,.aH],[5]):=by intros;rfl
 have fg9:∀(y0 y1 y2 y3 y4 y5 y6 y7 y8:cz) (a a':List AV) (n m:Nat),ow false [y0,y1,y2,y3,y4,y5,y6,y7,y8,.cells .live [.aK a n,.aK a' m]] [.int .i64 6,.aI 9 0 2 1 2,.aH]=some ([.int .i64 6,.aK [.aK a n,.aK a' m] 2,.aH],[9]):=by intros;rfl
 refine gv0 (C.ov _ _ (by decide)) (by rw[C.fn];exact fn5) rfl ?_;intro ts hl;unfold c5;unfold eJ bO at*;simp only[↓aN,aO,↓aQ,aJ,↓reduceIte,aa,ah,ak,ae,an,ao,aq,Tryz.f5,ai,aj,ar,au,aw,aA,aB,aC,aD,aE,aF,aG,aj,hl,awJ,agu,akb,nA,nB,nC,nD,gA,gB,gC,cA,cB,cC,mA,mB,mC,hn,q1,q2,q3,q4,rfv,rft,rfj,fi0,fi3,fi4,fi7,fi8,fg1,fg5,fg9]
end Go.Proofs.YtblnjkjjedanaaaGreatDoor
namespace Go.Proofs.YtblnjkjjedanaaaGreatDoor
open Go Dv Dv.b7
variable{E:Env}[C:Ctx E]
theorem Jj(a b:V3):mu a b=mu b a:=by unfold mu;rw[aWV a.x,aWV a.y,aWV a.z]
theorem Rw{k d:Int}{cl:Bool}{a0 a1 a2 b0 b1 b2 h:List UInt8}(hk:0<=k/\k<=8)(h8:k≠8)(h7:k=7->cl=true)(Jv:d=BS k)
  (vI:a0.length<=4611686018427387904) (vH:a1.length<=4611686018427387904) (vG:a2.length<=4611686018427387904) (wS:b0.length<=4611686018427387904) (wk:b1.length<=4611686018427387904) (wh:b2.length<=4611686018427387904) (lh:h.length<=4611686018427387904):
  aP E 11 [bO k d cl a0 a1 a2 b0 b1 b2 h]=some (.int .i64 (su (Rv k) (TC k) (Zj k) a0 a1 a2 b0 b1 b2 h)):=by
 refine dX ?_;have hn:=FR (E:=E) hk;have e8:(k !=8)=true:=bne_iff_ne.2 h8;have og:(k==8)=false:=beq_eq_false_iff_ne.2 h8;have r1:decide (k<0)=false:=cg (by omega);have r2:decide (k>8)=false:=cg (by omega);have i1:(0<=k)=True:=eq_true hk.1;have i2:(k<8)=True:=eq_true (by omega);have jw:[AV.int .i64 0,.int .i64 1,.int .i64 1,.int .i64 1,.int .i64 2,.int .i64 3,.int .i64 3,.int .i64 6][k.toNat]?=some (.int .i64 d):=by
  rw[Jv];obtain e|e|e|e|e|e|e|e:k=0∨k=1∨k=2∨k=3∨k=4∨k=5∨k=6∨k=7:=by omega
  all_goals subst e;rfl
 have dd:(d !=d)=false:=by simp
 have km:∀aL,aT E aL 91 8 [(0,.int .i64 0),(1,.int .i64 1),(2,.int .i64 1),(3,.int .i64 1),(4,.int .i64 2),(5,.int .i64 3),(6,.int .i64 3),(7,.int .i64 6)]=some (.aI aL 0 8 1 8,[(aL,.cells .live [.int .i64 0,.int .i64 1,.int .i64 1,.int .i64 1,.int .i64 2,.int .i64 3,.int .i64 3,.int .i64 6])]):=by intro aL;obtain⟨i,e,ei,h1,h2,h3,h4,h5,h6,h7⟩:=ij (Uf (E:=E));obtain⟨cV,isAgg,size,bytes,zero,eS⟩:=i;simp only at h2;subst h2;simp[aT,h1,h3,h7,h5,gV,iE,AV.cells]
 obtain⟨f1,lM,Qr⟩:=cw (E:=E) vI vH vG;obtain⟨f2,n9,if2⟩:=cw (E:=E) wS wk wh;have ZZ:=BZ (L:=65536) (s0:=a0) (s1:=a1) (s2:=a2) (by omega);have bf2:=BZ (L:=65536) (s0:=b0) (s1:=b1) (s2:=b2) (by omega);obtain⟨jo,ji,jr,jh,kf,jY,kj,j6,kh,j7,ke,j8,rfl,-,-,-,X1,X2⟩:=bM Qr;obtain⟨kV,k7,kW,k6,lH,lK,lG,lI,lE,lL,lC,lF,rfl,-,-,-,Y1,Y2⟩:=bM if2;obtain⟨rd,qh,ird⟩:=mZ (E:=E) lh;obtain⟨rn0,rm0,rn1,rm1,_,_,rfl,-,-,-,-⟩:=bX ird;have RM:=aW _ ird;have mE:=gz (E:=E) ird;have He:=fun{c:Bool}=>Bi (E:=E) (c:=c) (s0:=a0) (s1:=a1) (s2:=a2)
 have Ha:=fun{c:Bool}=>Bi (E:=E) (c:=c) (s0:=b0) (s1:=b1) (s2:=b2)
 have hz:=gH (E:=E) Qr ZZ (by omega);obtain⟨dt,Uj,idt⟩:=rJ (E:=E) if2 Qr bf2 ZZ (by omega);have Up:=jg idt;have TT:=gz (E:=E) idt;have xt:=uD (mu (cT 65536 b0 b1 b2) (cT 65536 a0 a1 a2));generalize Rv k=di at*;generalize TC k=po at*;generalize Zj k=pi at*;have e7:(k==7)=true/\cl=true∨(k==7)=false:=by
  by_cases h:k=7
  ·exact .inl ⟨by rw[h];rfl,h7 h⟩
  ·exact .inr (beq_eq_false_iff_ne.2 h)
 refine nY aps ?_;intro ts hl g0;unfold bO at g0;unfold c11 su;rcases e7 with⟨e7,rfl⟩|e7
 all_goals
  cases di with
  |true=>
   by_cases vL:kQ 65536 a0 a1 a2=0
   rotate_left
   ·have aim:(kQ 65536 a0 a1 a2 !=0)=true:=bne_iff_ne.2 vL
    simp(maxSteps:=2000000)only[↓aN,aO,↓aQ,aJ,↓reduceIte,aa,ah,ae,Tryz.f11,ai,aj,aj,hl,g0,r1,r2,e8,og,e7,i1,i2,jw,dd,km,hn,lM,X2,aim]
    simp[dM,vL]
   rw[vL]at lM;by_cases nM:cT 65536 a0 a1 a2=v0
   ·rw[b8 nM]at hz
    simp(maxSteps:=2000000)only[↓aN,aO,↓aQ,aJ,↓reduceIte,aa,ah,ae,Tryz.f11,ai,aj,aE,aj,hl,g0,r1,r2,e8,og,e7,i1,i2,jw,dd,km,hn,lM,X1,X2,hz]
    simp[dM,cU,vL,nM]
   rw[cg nM]at hz;obtain⟨ln,n8,iln⟩:=Uy (E:=E) Qr ZZ (by omega) nM;have heq:=DD (E:=E) iln Qr (qV ZZ nM) ZZ (by omega);have BC:=ja iln;by_cases hle:eM (cT 65536 a0 a1 a2)=cT 65536 a0 a1 a2
   rotate_left
   ·rw[cg hle]at heq
    simp(maxSteps:=2000000)only[↓aN,aO,↓aQ,aJ,↓reduceIte,aa,ah,ae,Tryz.f11,ai,aj,aE,aj,hl,g0,r1,r2,e8,og,e7,i1,i2,jw,dd,km,hn,lM,X1,X2,hz,n8,BC,heq]
    simp[dM,cU,vL,nM,hle]
   rw[b8 hle]at heq;cases po with
   |false=>
    by_cases qM:b0=[]/\b1=[]/\b2=[]
    rotate_left
    ·rw[cg qM]at Ha
     simp(maxSteps:=2000000)only[↓aN,aO,↓aQ,aJ,↓reduceIte,aa,ah,ae,Tryz.f11,ai,aj,aE,aj,hl,g0,r1,r2,e8,og,e7,i1,i2,jw,dd,km,hn,lM,X1,X2,hz,n8,BC,heq,n9,Y2,Ha]
     simp[dM,cU,vL,nM,hle,qM]
    rw[b8 qM]at Ha;cases pi with
    |false=>
     by_cases pY:h=[]
     ·have vP:(h==[])=true:=by rw[pY];rfl
      simp(maxSteps:=2000000)only[↓aN,aO,↓aQ,aJ,↓reduceIte,aa,ah,ae,Tryz.f11,ai,aj,aE,aj,hl,g0,r1,r2,e8,og,e7,i1,i2,jw,dd,km,hn,lM,X1,X2,hz,n8,BC,heq,Ha,n9,Y2,qh,RM,dV,vP]
      simp[dM,cU,jB,vL,nM,hle,qM,pY]
     ·have vP:(h==[])=false:=beq_eq_false_iff_ne.2 pY
      simp(maxSteps:=2000000)only[↓aN,aO,↓aQ,aJ,↓reduceIte,aa,ah,ae,Tryz.f11,ai,aj,aE,aj,hl,g0,r1,r2,e8,og,e7,i1,i2,jw,dd,km,hn,lM,X1,X2,hz,n8,BC,heq,Ha,n9,Y2,qh,RM,dV,vP]
      simp[dM,cU,jB,vL,nM,hle,qM,pY]
    |true=>
     by_cases pX:cN 65536 h=0
     ·rw[pX]at qh;rw[if_pos pX]at mE;have sH:=qy (fh h);by_cases uF:fh h=0
      ·rw[b8 uF]at sH
       simp(maxSteps:=2000000)only[↓aN,aO,↓aQ,aJ,↓reduceIte,aa,ah,ae,Tryz.f11,ai,aj,aE,aj,hl,g0,r1,r2,e8,og,e7,i1,i2,jw,dd,km,hn,lM,X1,X2,hz,n8,BC,heq,Ha,n9,Y2,qh,RM,mE,sH]
       simp[dM,cU,jB,vL,nM,hle,qM,pX,uF]
      ·rw[cg uF]at sH
       simp(maxSteps:=2000000)only[↓aN,aO,↓aQ,aJ,↓reduceIte,aa,ah,ae,Tryz.f11,ai,aj,aE,aj,hl,g0,r1,r2,e8,og,e7,i1,i2,jw,dd,km,hn,lM,X1,X2,hz,n8,BC,heq,Ha,n9,Y2,qh,RM,mE,sH]
       simp[dM,cU,jB,vL,nM,hle,qM,pX,uF]
     ·have Lf:(cN 65536 h !=0)=true:=bne_iff_ne.2 pX
      simp(maxSteps:=2000000)only[↓aN,aO,↓aQ,aJ,↓reduceIte,aa,ah,ae,Tryz.f11,ai,aj,aE,aj,hl,g0,r1,r2,e8,og,e7,i1,i2,jw,dd,km,hn,lM,X1,X2,hz,n8,BC,heq,Ha,n9,Y2,qh,RM,Lf]
      simp[dM,cU,jB,vL,nM,hle,qM,pX]
   |true=>
    by_cases uk:kQ 65536 b0 b1 b2=0
    rotate_left
    ·have Qp:(kQ 65536 b0 b1 b2 !=0)=true:=bne_iff_ne.2 uk
     simp(maxSteps:=2000000)only[↓aN,aO,↓aQ,aJ,↓reduceIte,aa,ah,ae,Tryz.f11,ai,aj,aE,aj,hl,g0,r1,r2,e8,og,e7,i1,i2,jw,dd,km,hn,lM,X1,X2,hz,n8,BC,heq,n9,Y2,Qp]
     simp[dM,cU,vL,nM,hle,uk]
    rw[uk]at n9;by_cases UI:mu (cT 65536 b0 b1 b2) (cT 65536 a0 a1 a2)=0
    rotate_left
    ·rw[cg UI]at xt;have Rn:¬mu (cT 65536 a0 a1 a2) (cT 65536 b0 b1 b2)=0:=by rw[Jj];exact UI
     simp(maxSteps:=2000000)only[↓aN,aO,↓aQ,aJ,↓reduceIte,aa,ah,ae,Tryz.f11,ai,aj,aE,aj,hl,g0,r1,r2,e8,og,e7,i1,i2,jw,dd,km,hn,lM,X1,X2,hz,n8,BC,heq,n9,Y1,Y2,Uj,Up,TT,xt]
     simp[dM,cU,vL,nM,hle,uk,Rn]
    rw[b8 UI]at xt;have Rn:mu (cT 65536 a0 a1 a2) (cT 65536 b0 b1 b2)=0:=by rw[Jj];exact UI
    cases pi with
    |false=>
     by_cases pY:h=[]
     ·have vP:(h==[])=true:=by rw[pY];rfl
      simp(maxSteps:=2000000)only[↓aN,aO,↓aQ,aJ,↓reduceIte,aa,ah,ae,Tryz.f11,ai,aj,aE,aj,hl,g0,r1,r2,e8,og,e7,i1,i2,jw,dd,km,hn,lM,X1,X2,hz,n8,BC,heq,Uj,Up,TT,xt,n9,Y1,Y2,qh,RM,dV,vP]
      simp[dM,cU,jB,vL,nM,hle,uk,Rn,pY]
     ·have vP:(h==[])=false:=beq_eq_false_iff_ne.2 pY
      simp(maxSteps:=2000000)only[↓aN,aO,↓aQ,aJ,↓reduceIte,aa,ah,ae,Tryz.f11,ai,aj,aE,aj,hl,g0,r1,r2,e8,og,e7,i1,i2,jw,dd,km,hn,lM,X1,X2,hz,n8,BC,heq,Uj,Up,TT,xt,n9,Y1,Y2,qh,RM,dV,vP]
      simp[dM,cU,jB,vL,nM,hle,uk,Rn,pY]
    |true=>
     by_cases pX:cN 65536 h=0
     ·rw[pX]at qh;rw[if_pos pX]at mE;have sH:=qy (fh h);by_cases uF:fh h=0
      ·rw[b8 uF]at sH
       simp(maxSteps:=2000000)only[↓aN,aO,↓aQ,aJ,↓reduceIte,aa,ah,ae,Tryz.f11,ai,aj,aE,aj,hl,g0,r1,r2,e8,og,e7,i1,i2,jw,dd,km,hn,lM,X1,X2,hz,n8,BC,heq,Uj,Up,TT,xt,n9,Y1,Y2,qh,RM,mE,sH]
       simp[dM,cU,jB,vL,nM,hle,uk,Rn,pX,uF]
      ·rw[cg uF]at sH
       simp(maxSteps:=2000000)only[↓aN,aO,↓aQ,aJ,↓reduceIte,aa,ah,ae,Tryz.f11,ai,aj,aE,aj,hl,g0,r1,r2,e8,og,e7,i1,i2,jw,dd,km,hn,lM,X1,X2,hz,n8,BC,heq,Uj,Up,TT,xt,n9,Y1,Y2,qh,RM,mE,sH]
       simp[dM,cU,jB,vL,nM,hle,uk,Rn,pX,uF]
     ·have Lf:(cN 65536 h !=0)=true:=bne_iff_ne.2 pX
      simp(maxSteps:=2000000)only[↓aN,aO,↓aQ,aJ,↓reduceIte,aa,ah,ae,Tryz.f11,ai,aj,aE,aj,hl,g0,r1,r2,e8,og,e7,i1,i2,jw,dd,km,hn,lM,X1,X2,hz,n8,BC,heq,Uj,Up,TT,xt,n9,Y1,Y2,qh,RM,Lf]
      simp[dM,cU,jB,vL,nM,hle,uk,Rn,pX]
  |false=>
   by_cases uh:a0=[]/\a1=[]/\a2=[]
   rotate_left
   ·rw[cg uh]at He
    simp(maxSteps:=2000000)only[↓aN,aO,↓aQ,aJ,↓reduceIte,aa,ah,ae,Tryz.f11,ai,aj,aj,hl,g0,r1,r2,e8,og,e7,i1,i2,jw,dd,km,hn,lM,X2,He]
    simp[dM,uh]
   rw[b8 uh]at He;cases po with
   |false=>
    by_cases qM:b0=[]/\b1=[]/\b2=[]
    rotate_left
    ·rw[cg qM]at Ha
     simp(maxSteps:=2000000)only[↓aN,aO,↓aQ,aJ,↓reduceIte,aa,ah,ae,Tryz.f11,ai,aj,aj,hl,g0,r1,r2,e8,og,e7,i1,i2,jw,dd,km,hn,lM,X2,He,n9,Y2,Ha]
     simp[dM,cU,uh,qM]
    rw[b8 qM]at Ha;cases pi with
    |false=>
     by_cases pY:h=[]
     ·have vP:(h==[])=true:=by rw[pY];rfl
      simp(maxSteps:=2000000)only[↓aN,aO,↓aQ,aJ,↓reduceIte,aa,ah,ae,Tryz.f11,ai,aj,aj,hl,g0,r1,r2,e8,og,e7,i1,i2,jw,dd,km,hn,lM,X2,He,Ha,n9,Y2,qh,RM,dV,vP]
      simp[dM,cU,jB,uh,qM,pY]
     ·have vP:(h==[])=false:=beq_eq_false_iff_ne.2 pY
      simp(maxSteps:=2000000)only[↓aN,aO,↓aQ,aJ,↓reduceIte,aa,ah,ae,Tryz.f11,ai,aj,aj,hl,g0,r1,r2,e8,og,e7,i1,i2,jw,dd,km,hn,lM,X2,He,Ha,n9,Y2,qh,RM,dV,vP]
      simp[dM,cU,jB,uh,qM,pY]
    |true=>
     by_cases pX:cN 65536 h=0
     ·rw[pX]at qh;rw[if_pos pX]at mE;have sH:=qy (fh h);by_cases uF:fh h=0
      ·rw[b8 uF]at sH
       simp(maxSteps:=2000000)only[↓aN,aO,↓aQ,aJ,↓reduceIte,aa,ah,ae,Tryz.f11,ai,aj,aE,aj,hl,g0,r1,r2,e8,og,e7,i1,i2,jw,dd,km,hn,lM,X2,He,Ha,n9,Y2,qh,RM,mE,sH]
       simp[dM,cU,jB,uh,qM,pX,uF]
      ·rw[cg uF]at sH
       simp(maxSteps:=2000000)only[↓aN,aO,↓aQ,aJ,↓reduceIte,aa,ah,ae,Tryz.f11,ai,aj,aE,aj,hl,g0,r1,r2,e8,og,e7,i1,i2,jw,dd,km,hn,lM,X2,He,Ha,n9,Y2,qh,RM,mE,sH]
       simp[dM,cU,jB,uh,qM,pX,uF]
     ·have Lf:(cN 65536 h !=0)=true:=bne_iff_ne.2 pX
      simp(maxSteps:=2000000)only[↓aN,aO,↓aQ,aJ,↓reduceIte,aa,ah,ae,Tryz.f11,ai,aj,aj,hl,g0,r1,r2,e8,og,e7,i1,i2,jw,dd,km,hn,lM,X2,He,Ha,n9,Y2,qh,RM,Lf]
      simp[dM,cU,jB,uh,qM,pX]
   |true=>
    by_cases uk:kQ 65536 b0 b1 b2=0
    rotate_left
    ·have Qp:(kQ 65536 b0 b1 b2 !=0)=true:=bne_iff_ne.2 uk
     simp(maxSteps:=2000000)only[↓aN,aO,↓aQ,aJ,↓reduceIte,aa,ah,ae,Tryz.f11,ai,aj,aj,hl,g0,r1,r2,e8,og,e7,i1,i2,jw,dd,km,hn,lM,X2,He,n9,Y2,Qp]
     simp[dM,cU,uh,uk]
    rw[uk]at n9;cases pi with
    |false=>
     by_cases pY:h=[]
     ·have vP:(h==[])=true:=by rw[pY];rfl
      simp(maxSteps:=2000000)only[↓aN,aO,↓aQ,aJ,↓reduceIte,aa,ah,ae,Tryz.f11,ai,aj,aE,aj,hl,g0,r1,r2,e8,og,e7,i1,i2,jw,dd,km,hn,lM,X2,He,n9,Y2,qh,RM,dV,vP]
      simp[dM,cU,jB,uh,uk,pY]
     ·have vP:(h==[])=false:=beq_eq_false_iff_ne.2 pY
      simp(maxSteps:=2000000)only[↓aN,aO,↓aQ,aJ,↓reduceIte,aa,ah,ae,Tryz.f11,ai,aj,aE,aj,hl,g0,r1,r2,e8,og,e7,i1,i2,jw,dd,km,hn,lM,X2,He,n9,Y2,qh,RM,dV,vP]
      simp[dM,cU,jB,uh,uk,pY]
    |true=>
     by_cases pX:cN 65536 h=0
     ·rw[pX]at qh;rw[if_pos pX]at mE;have sH:=qy (fh h);by_cases uF:fh h=0
      ·rw[b8 uF]at sH
       simp(maxSteps:=2000000)only[↓aN,aO,↓aQ,aJ,↓reduceIte,aa,ah,ae,Tryz.f11,ai,aj,aE,aj,hl,g0,r1,r2,e8,og,e7,i1,i2,jw,dd,km,hn,lM,X2,He,n9,Y2,qh,RM,mE,sH]
       simp[dM,cU,jB,uh,uk,pX,uF]
      ·rw[cg uF]at sH
       simp(maxSteps:=2000000)only[↓aN,aO,↓aQ,aJ,↓reduceIte,aa,ah,ae,Tryz.f11,ai,aj,aE,aj,hl,g0,r1,r2,e8,og,e7,i1,i2,jw,dd,km,hn,lM,X2,He,n9,Y2,qh,RM,mE,sH]
       simp[dM,cU,jB,uh,uk,pX,uF]
     ·have Lf:(cN 65536 h !=0)=true:=bne_iff_ne.2 pX
      simp(maxSteps:=2000000)only[↓aN,aO,↓aQ,aJ,↓reduceIte,aa,ah,ae,Tryz.f11,ai,aj,aE,aj,hl,g0,r1,r2,e8,og,e7,i1,i2,jw,dd,km,hn,lM,X2,He,n9,Y2,qh,RM,Lf]
      simp[dM,cU,jB,uh,uk,pX]
theorem Mc{k d:Int}{cl:Bool}{a0 a1 a2 b0 b1 b2 h:List UInt8}
  (vI:a0.length<=4611686018427387904) (vH:a1.length<=4611686018427387904) (vG:a2.length<=4611686018427387904) (wS:b0.length<=4611686018427387904) (wk:b1.length<=4611686018427387904) (wh:b2.length<=4611686018427387904) (lh:h.length<=4611686018427387904):
  aP E 11 [bO k d cl a0 a1 a2 b0 b1 b2 h]=some (.int .i64 (qS k d cl a0 a1 a2 b0 b1 b2 h)):=by
 by_cases abI:(0<=k/\k<=8)/\k≠8/\d=BS k/\¬(k=7/\cl=false)
 ·obtain⟨hk,h8,Jv,h7⟩:=abI;have hc:qS k d cl a0 a1 a2 b0 b1 b2 h=su (Rv k) (TC k) (Zj k) a0 a1 a2 b0 b1 b2 h:=by unfold qS;rw[if_neg (by simpa using hk),if_neg (by simp[h8,Jv]),if_neg h7]
  rw[hc];refine Rw (E:=E) hk h8 (fun x=>?_) Jv vI vH vG wS wk wh lh;cases cl with
  |true=>rfl
  |false=>exact absurd ⟨x,rfl⟩ h7
 refine dX ?_;obtain⟨f1,lM,Qr⟩:=cw (E:=E) vI vH vG;obtain⟨f2,n9,if2⟩:=cw (E:=E) wS wk wh;obtain⟨jo,ji,jr,jh,kf,jY,kj,j6,kh,j7,ke,j8,rfl,-,-,-,X1,X2⟩:=bM Qr;obtain⟨kV,k7,kW,k6,lH,lK,lG,lI,lE,lL,lC,lF,rfl,-,-,-,Y1,Y2⟩:=bM if2;obtain⟨rd,qh,ird⟩:=mZ (E:=E) lh;obtain⟨rn0,rm0,rn1,rm1,_,_,rfl,-,-,-,-⟩:=bX ird;have RM:=aW _ ird;have He:=fun{c:Bool}=>Bi (E:=E) (c:=c) (s0:=a0) (s1:=a1) (s2:=a2)
 have Ha:=fun{c:Bool}=>Bi (E:=E) (c:=c) (s0:=b0) (s1:=b1) (s2:=b2)
 refine nY aps ?_;intro ts hl g0;unfold bO at g0;unfold c11 qS;by_cases hk:0<=k/\k<=8
 rotate_left
 ·rw[if_pos hk];by_cases Zh:k<0
  ·have r1:decide (k<0)=true:=b8 Zh
   simp(maxSteps:=2000000)only[↓aN,aO,aJ,aa,ae,Tryz.f11,hl,g0,r1]
  ·have r1:decide (k<0)=false:=cg Zh;have r2:decide (k>8)=true:=b8 (by omega)
   simp(maxSteps:=2000000)only[↓aN,aO,aJ,aa,ae,Tryz.f11,hl,g0,r1,r2]
 rw[if_neg (by simpa using hk)];have r1:decide (k<0)=false:=cg (by omega);have r2:decide (k>8)=false:=cg (by omega);by_cases h8:k=8
 ·subst h8;have hn:=FR (E:=E) hk;rw[show Rv 8=false from rfl,show TC 8=false from rfl,show Zj 8=false from rfl]at hn⊢;by_cases tz:d<2
  ·have c1:decide (d<2)=true:=b8 tz
   simp(maxSteps:=2000000)only[↓aN,aO,aJ,aa,ah,ae,ao,Tryz.f11,ar,aF,hl,g0,c1]
   simp[tz]
  have c1:decide (d<2)=false:=cg tz;by_cases hd5:d>5
  ·have c2:decide (d>5)=true:=b8 hd5
   simp(maxSteps:=2000000)only[↓aN,aO,aJ,aa,ah,ae,ao,Tryz.f11,ar,aF,hl,g0,c1,c2]
   simp[hd5]
  have c2:decide (d>5)=false:=cg hd5;rw[if_neg (by omega),if_neg (by omega)];unfold su;by_cases uh:a0=[]/\a1=[]/\a2=[]
  rotate_left
  ·rw[cg uh]at He
   simp(maxSteps:=2000000)only[↓aN,aO,↓aQ,aJ,↓reduceIte,aa,ah,ae,ao,Tryz.f11,ai,ar,aD,aE,hl,g0,c1,c2,hn,lM,X2,He]
   simp[dM,uh]
  rw[b8 uh]at He;by_cases qM:b0=[]/\b1=[]/\b2=[]
  rotate_left
  ·rw[cg qM]at Ha
   simp(maxSteps:=2000000)only[↓aN,aO,↓aQ,aJ,↓reduceIte,aa,ah,ae,ao,Tryz.f11,ai,ar,aD,aE,hl,g0,c1,c2,hn,lM,X2,He,n9,Y2,Ha]
   simp[dM,cU,uh,qM]
  rw[b8 qM]at Ha;by_cases pY:h=[]
  ·have vP:(h==[])=true:=by rw[pY];rfl
   simp(maxSteps:=2000000)only[↓aN,aO,↓aQ,aJ,↓reduceIte,aa,ah,ae,ao,Tryz.f11,ai,ar,aD,aE,hl,g0,c1,c2,hn,lM,X2,He,n9,Y2,Ha,qh,RM,dV,vP]
   simp[dM,cU,jB,uh,qM,pY]
  ·have vP:(h==[])=false:=beq_eq_false_iff_ne.2 pY
   simp(maxSteps:=2000000)only[↓aN,aO,↓aQ,aJ,↓reduceIte,aa,ah,ae,ao,Tryz.f11,ai,ar,aD,aE,hl,g0,c1,c2,hn,lM,X2,He,n9,Y2,Ha,qh,RM,dV,vP]
   simp[dM,cU,jB,uh,qM,pY]
 have e8:(k !=8)=true:=bne_iff_ne.2 h8;have og:(k==8)=false:=beq_eq_false_iff_ne.2 h8;have i1:(0<=k)=True:=eq_true hk.1;have i2:(k<8)=True:=eq_true (by omega);have jw:[AV.int .i64 0,.int .i64 1,.int .i64 1,.int .i64 1,.int .i64 2,.int .i64 3,.int .i64 3,.int .i64 6][k.toNat]?=some (.int .i64 (BS k)):=by
  obtain e|e|e|e|e|e|e|e:k=0∨k=1∨k=2∨k=3∨k=4∨k=5∨k=6∨k=7:=by omega
  all_goals subst e;rfl
 have km:∀aL,aT E aL 91 8 [(0,.int .i64 0),(1,.int .i64 1),(2,.int .i64 1),(3,.int .i64 1),(4,.int .i64 2),(5,.int .i64 3),(6,.int .i64 3),(7,.int .i64 6)]=some (.aI aL 0 8 1 8,[(aL,.cells .live [.int .i64 0,.int .i64 1,.int .i64 1,.int .i64 1,.int .i64 2,.int .i64 3,.int .i64 3,.int .i64 6])]):=by intro aL;obtain⟨i,e,ei,h1,h2,h3,h4,h5,h6,h7⟩:=ij (Uf (E:=E));obtain⟨cV,isAgg,size,bytes,zero,eS⟩:=i;simp only at h2;subst h2;simp[aT,h1,h3,h7,h5,gV,iE,AV.cells]
 by_cases Jv:d=BS k
 ·have h7:k=7/\cl=false:=by
   by_cases x:k=7/\cl=false
   ·exact x
   ·exact absurd ⟨hk,h8,Jv,x⟩ abI
  obtain⟨rfl,rfl⟩:=h7;have h6:BS 7=6:=rfl;rw[h6]at Jv;subst Jv
  simp(maxSteps:=2000000)only[↓aN,aO,aJ,↓reduceIte,aa,ah,ae,ao,aq,Tryz.f11,aj,ar,aE,aF,aj,hl,g0,e8,og,i1,i2,km]
  simp[h6]
 ·have dd:(d !=BS k)=true:=bne_iff_ne.2 Jv
  simp(maxSteps:=2000000)only[↓aN,aO,aJ,↓reduceIte,aa,ah,ae,Tryz.f11,aj,aj,hl,g0,r1,r2,e8,og,i1,i2,jw,dd,km]
  simp[h8,Jv]
namespace X1
variable{E:Env}[C:ou E]
def aqH:List AV:=[.str [102,105,120,101,100],.str [114,101,118,111,108,117,116,101],.str [112,114,105,115,109,97,116,105,99],.str [104,101,108,105,99,97,108],.str [99,121,108,105,110,100,114,105,99,97,108],.str [115,112,104,101,114,105,99,97,108],.str [112,108,97,110,97,114],.str [102,114,101,101],.str [111,116,104,101,114]]
theorem Zo{aL:Nat}:aT E aL 54 9 [(0,.str [102,105,120,101,100]),(1,.str [114,101,118,111,108,117,116,101]),(2,.str [112,114,105,115,109,97,116,105,99]),(3,.str [104,101,108,105,99,97,108]),(4,.str [99,121,108,105,110,100,114,105,99,97,108]),(5,.str [115,112,104,101,114,105,99,97,108]),(6,.str [112,108,97,110,97,114]),(7,.str [102,114,101,101]),(8,.str [111,116,104,101,114])]=some (.aI aL 0 9 1 9,[(aL,.cells .live aqH)]):=by
 rw[C.e]
 kernel_rfl
theorem aeq{z:Int}(h:0<=z/\z<=8):aqH[z.toNat]?=some (.str (nameOf z)):=by
 obtain⟨n,rfl⟩:∃n:Nat,z=n:=⟨z.toNat,by omega⟩;have hn:n=0∨n=1∨n=2∨n=3∨n=4∨n=5∨n=6∨n=7∨n=8:=by omega
 rcases hn with rfl|rfl|rfl|rfl|rfl|rfl|rfl|rfl|rfl<;>rfl
theorem ai6{z:Int}(h:0<=z/\z<=8):(nameOf z==[])=false:=by
 obtain⟨n,rfl⟩:∃n:Nat,z=n:=⟨z.toNat,by omega⟩;have hn:n=0∨n=1∨n=2∨n=3∨n=4∨n=5∨n=6∨n=7∨n=8:=by omega
 rcases hn with rfl|rfl|rfl|rfl|rfl|rfl|rfl|rfl|rfl<;>rfl
theorem J9{c:Bool}:dC E c .eql 39 (.agg [.int .i64 0,.int .i64 0,.bool false,.str [],.str [],.str [],.str [],.str [],.str [],.str []]) (.agg [.int .i64 0,.int .i64 0,.bool false,.str [],.str [],.str [],.str [],.str [],.str [],.str []])=some (.bool true):=by
 rw[C.e]
 kernel_rfl
theorem V6{k d z:Int}{cl:Bool}{a0 a1 a2 b0 b1 b2 h:List UInt8}{t0 t1 t2 t3:Int}{s0 s1 s2:List UInt8}
  (vI:a0.length<=140737488355328) (vH:a1.length<=140737488355328) (vG:a2.length<=140737488355328) (wS:b0.length<=140737488355328) (wk:b1.length<=140737488355328) (wh:b2.length<=140737488355328) (lh:h.length<=140737488355328) (ls0:s0.length<=140737488355328) (ls1:s1.length<=140737488355328) (ls2:s2.length<=140737488355328):
  ∃r,aP E 4 [bO k d cl a0 a1 a2 b0 b1 b2 h,.agg [.int .i64 t0,.int .i64 t1,.int .i64 t2,.int .i64 t3,.str s0,.str s1,.str s2],.int .i64 z]=some r/\r=.bool true:=by
 have Lj:=tr (E:=E) rfl (QV (E:=E0));have w0:aX .i64 ((h.length:Int)+(a0.length:Int))=(h.length:Int)+(a0.length:Int):=wrap_i64 (by omega) (by omega);have w1:aX .i64 ((h.length:Int)+(a0.length:Int)+(b0.length:Int))=(h.length:Int)+(a0.length:Int)+(b0.length:Int):=wrap_i64 (by omega) (by omega);have w2:aX .i64 ((h.length:Int)+(a0.length:Int)+(b0.length:Int)+(s0.length:Int))=(h.length:Int)+(a0.length:Int)+(b0.length:Int)+(s0.length:Int):=wrap_i64 (by omega) (by omega);have w3:aX .i64 ((h.length:Int)+(a0.length:Int)+(b0.length:Int)+(s0.length:Int)+(a1.length:Int))=(h.length:Int)+(a0.length:Int)+(b0.length:Int)+(s0.length:Int)+(a1.length:Int):=wrap_i64 (by omega) (by omega);have w4:aX .i64 ((h.length:Int)+(a0.length:Int)+(b0.length:Int)+(s0.length:Int)+(a1.length:Int)+(b1.length:Int))=(h.length:Int)+(a0.length:Int)+(b0.length:Int)+(s0.length:Int)+(a1.length:Int)+(b1.length:Int):=wrap_i64 (by omega) (by omega);have w5:aX .i64 ((h.length:Int)+(a0.length:Int)+(b0.length:Int)+(s0.length:Int)+(a1.length:Int)+(b1.length:Int)+(s1.length:Int))=(h.length:Int)+(a0.length:Int)+(b0.length:Int)+(s0.length:Int)+(a1.length:Int)+(b1.length:Int)+(s1.length:Int):=wrap_i64 (by omega) (by omega);have w6:aX .i64 ((h.length:Int)+(a0.length:Int)+(b0.length:Int)+(s0.length:Int)+(a1.length:Int)+(b1.length:Int)+(s1.length:Int)+(a2.length:Int))=(h.length:Int)+(a0.length:Int)+(b0.length:Int)+(s0.length:Int)+(a1.length:Int)+(b1.length:Int)+(s1.length:Int)+(a2.length:Int):=wrap_i64 (by omega) (by omega);have w7:aX .i64 ((h.length:Int)+(a0.length:Int)+(b0.length:Int)+(s0.length:Int)+(a1.length:Int)+(b1.length:Int)+(s1.length:Int)+(a2.length:Int)+(b2.length:Int))=(h.length:Int)+(a0.length:Int)+(b0.length:Int)+(s0.length:Int)+(a1.length:Int)+(b1.length:Int)+(s1.length:Int)+(a2.length:Int)+(b2.length:Int):=wrap_i64 (by omega) (by omega);have w8:aX .i64 ((h.length:Int)+(a0.length:Int)+(b0.length:Int)+(s0.length:Int)+(a1.length:Int)+(b1.length:Int)+(s1.length:Int)+(a2.length:Int)+(b2.length:Int)+(s2.length:Int))=(h.length:Int)+(a0.length:Int)+(b0.length:Int)+(s0.length:Int)+(a1.length:Int)+(b1.length:Int)+(s1.length:Int)+(a2.length:Int)+(b2.length:Int)+(s2.length:Int):=wrap_i64 (by omega) (by omega);refine gv3 (C.ov (.inl rfl)) (by rw[C.fn];exact fn4) rfl (by decide) ?_;intro ts hl g0 g1 g2;unfold c4 bO at*;simp only[↓aN,aO,↓eH,gh,↓reduceIte,aa,ah,ak,ae,an,ao,aq,Tryz.f4,hJ vn,gM vn,ai,aj,ar,au,aw,aA,aB,aC,aD,aE,aF,aG,aj,hl,g0,g1,g2,Lj];refine ew 4 ?_;simp only[↓aN,aO,↓eH,gh,↓reduceIte,aa,ah,ak,ae,an,ao,aq,Tryz.f4,hJ vn,gM vn,ai,aj,ar,au,aw,aA,aB,aC,aD,aE,aF,aG,aj,hl,g0,g1,g2,Lj,uj,zZ,ED];simp only[w0,w1,w2,w3,w4,w5,w6,w7,w8];by_cases hb:(h.length:Int)+(a0.length:Int)+(b0.length:Int)+(s0.length:Int)+(a1.length:Int)+(b1.length:Int)+(s1.length:Int)+(a2.length:Int)+(b2.length:Int)+(s2.length:Int)>60
 ·have D8:decide ((h.length:Int)+(a0.length:Int)+(b0.length:Int)+(s0.length:Int)+(a1.length:Int)+(b1.length:Int)+(s1.length:Int)+(a2.length:Int)+(b2.length:Int)+(s2.length:Int)>60)=true:=b8 hb;simp only[↓aN,aO,↓eH,gh,↓reduceIte,aa,ah,ak,ae,an,ao,aq,Tryz.f4,hJ vn,gM vn,ai,aj,ar,au,aw,aA,aB,aC,aD,aE,aF,aG,aj,hl,g0,g1,g2,Lj,D8]
 have D8:decide ((h.length:Int)+(a0.length:Int)+(b0.length:Int)+(s0.length:Int)+(a1.length:Int)+(b1.length:Int)+(s1.length:Int)+(a2.length:Int)+(b2.length:Int)+(s2.length:Int)>60)=false:=cg hb;have hs:a0.length+a1.length+a2.length+(b0.length+b1.length+b2.length)+h.length+(s0.length+s1.length+s2.length)<=60:=by omega
 have OG:=tr (E:=E) rfl (Mc (E:=E0) (k:=k) (d:=d) (cl:=cl) (a0:=a0) (a1:=a1) (a2:=a2) (b0:=b0) (b1:=b1) (b2:=b2) (h:=h) (by omega) (by omega) (by omega) (by omega) (by omega) (by omega) (by omega));have Lc:=tr (E:=E) rfl (kA (E:=E0) (k:=k) (d:=d) (cl:=cl) (a0:=a0) (a1:=a1) (a2:=a2) (b0:=b0) (b1:=b1) (b2:=b2) (h:=h) (by omega) (by omega) (by omega) (by omega) (by omega) (by omega) (by omega));obtain⟨lr,zX,By⟩:=Tq (E:=E0) (k:=k) (d:=d) (cl:=cl) (a0:=a0) (a1:=a1) (a2:=a2) (b0:=b0) (b1:=b1) (b2:=b2) (h:=h) (by omega);replace zX:=tr (E:=E) rfl zX;obtain⟨c,MY,HR⟩:=Nh (E:=E0) (t0:=t0) (t1:=t1) (t2:=t2) (t3:=t3) (s0:=s0) (s1:=s1) (s2:=s2) (by omega) (by omega) (by omega);obtain⟨mr,zL,k',d',cl',EG,G9,Jf,HW,Hi,Eu,h',rfl,hlen,s8,vN⟩:=YE (E:=E) (k:=k) (d:=d) (cl:=cl) (a0:=a0) (a1:=a1) (a2:=a2) (b0:=b0) (b1:=b1) (b2:=b2) (h:=h) hs MY HR;replace MY:=tr (E:=E) rfl MY;have hn:=tr (E:=E) rfl (IB (E:=E0) (z:=z));simp only[aMc,aS7,or_false,forall_eq_or_imp,forall_eq]at hlen;obtain⟨n0,n1,n2,n3,n4,n5,n6⟩:=hlen;have CK:=tr (E:=E) rfl (kA (E:=E0) (k:=k') (d:=d') (cl:=cl') (a0:=EG) (a1:=G9) (a2:=Jf) (b0:=HW) (b1:=Hi) (b2:=Eu) (h:=h') (by omega) (by omega) (by omega) (by omega) (by omega) (by omega) (by omega));generalize qS k d cl a0 a1 a2 b0 b1 b2 h=e at*;generalize qS k' d' cl' EG G9 Jf HW Hi Eu h'=e' at*;unfold bO at OG Lc zX zL CK s8;have Pv:(e !=e)=false:=by simp
 by_cases hz:0<=z/\z<=8
 ·have Ny:decide (z≥0)=true:=b8 (by omega);have ZD:decide (z<=8)=true:=b8 (by omega);have dz9:((0<=z)=True):=eq_true (by omega);have Za:((z<9)=True):=eq_true (by omega);rw[if_pos hz,b8 hz]at hn;have hnm:=aeq hz;have dY:=ai6 hz;have OJ:(true !=true)=false:=rfl;by_cases he:e=0
  ·subst he;rw[if_neg (by simp)]at zX zL;by_cases hk:k=8
   ·have BI:(k !=8)=false:=by rw[hk];rfl
    rw[if_pos hk]at zX;by_cases hc:c=0
    ·have rm:(c !=0)=false:=by rw[hc];rfl
     have rO:(c==0)=true:=by rw[hc];rfl
     rw[vN rfl hc]at CK;simp only[↓aN,aO,↓eH,gh,↓reduceIte,aa,ah,ak,ae,an,ao,aq,Tryz.f4,hJ vn,gM vn,ai,aj,ar,au,aw,aA,aB,aC,aD,aE,aF,aG,aj,hl,g0,g1,g2,Lj,D8,OG,zX,By,zL,hn,Lc,Pv,Ny,ZD,dz9,Za,Zo,hnm,dY,OJ,dV,MY,CK,BI,rm,rO]
    ·have rm:(c !=0)=true:=bne_iff_ne.2 hc;have rO:(c==0)=false:=beq_eq_false_iff_ne.2 hc;rw[s8 (.inr hc)]at zL;simp only[↓aN,aO,↓eH,gh,↓reduceIte,aa,ah,ak,ae,an,ao,aq,Tryz.f4,hJ vn,gM vn,ai,aj,ar,au,aw,aA,aB,aC,aD,aE,aF,aG,aj,hl,g0,g1,g2,Lj,D8,OG,zX,By,zL,hn,Lc,Pv,Ny,ZD,dz9,Za,Zo,hnm,dY,OJ,dV,MY,J9,BI,rm,rO]
   ·have BI:(k !=8)=true:=bne_iff_ne.2 hk;rw[if_neg hk]at zX;by_cases hc:c=0
    ·have rm:(c !=0)=false:=by rw[hc];rfl
     have rO:(c==0)=true:=by rw[hc];rfl
     rw[vN rfl hc]at CK;simp only[↓aN,aO,↓eH,gh,↓reduceIte,aa,ah,ak,ae,an,ao,aq,Tryz.f4,hJ vn,gM vn,ai,aj,ar,au,aw,aA,aB,aC,aD,aE,aF,aG,aj,hl,g0,g1,g2,Lj,D8,OG,zX,By,zL,hn,Lc,Pv,Ny,ZD,dz9,Za,Zo,hnm,dY,OJ,dV,MY,CK,BI,rm,rO]
    ·have rm:(c !=0)=true:=bne_iff_ne.2 hc;have rO:(c==0)=false:=beq_eq_false_iff_ne.2 hc;rw[s8 (.inr hc)]at zL;simp only[↓aN,aO,↓eH,gh,↓reduceIte,aa,ah,ak,ae,an,ao,aq,Tryz.f4,hJ vn,gM vn,ai,aj,ar,au,aw,aA,aB,aC,aD,aE,aF,aG,aj,hl,g0,g1,g2,Lj,D8,OG,zX,By,zL,hn,Lc,Pv,Ny,ZD,dz9,Za,Zo,hnm,dY,OJ,dV,MY,J9,BI,rm,rO]
  ·have he1:(e !=0)=true:=bne_iff_ne.2 he;rw[if_pos he]at zX zL;rw[s8 (.inl he)]at zL;simp only[↓aN,aO,↓eH,gh,↓reduceIte,aa,ah,ak,ae,an,ao,aq,Tryz.f4,hJ vn,gM vn,ai,aj,ar,au,aw,aA,aB,aC,aD,aE,aF,aG,aj,hl,g0,g1,g2,Lj,D8,OG,zX,By,zL,hn,Lc,Pv,Ny,ZD,dz9,Za,Zo,hnm,dY,OJ,dV,he1,J9]
 ·have dY:(([]:List UInt8)==[])=true:=rfl;have OJ:(false !=false)=false:=rfl;rw[if_neg hz,cg hz]at hn;have hz':z<0∨8<z:=by omega
  rcases hz' with hz'|hz'
  ·have Ny:decide (z≥0)=false:=cg (by omega);by_cases he:e=0
   ·subst he;rw[if_neg (by simp)]at zX zL;by_cases hk:k=8
    ·have BI:(k !=8)=false:=by rw[hk];rfl
     rw[if_pos hk]at zX;by_cases hc:c=0
     ·have rm:(c !=0)=false:=by rw[hc];rfl
      have rO:(c==0)=true:=by rw[hc];rfl
      rw[vN rfl hc]at CK;simp only[↓aN,aO,↓eH,gh,↓reduceIte,aa,ah,ak,ae,an,ao,aq,Tryz.f4,hJ vn,gM vn,ai,aj,ar,au,aw,aA,aB,aC,aD,aE,aF,aG,aj,hl,g0,g1,g2,Lj,D8,OG,zX,By,zL,hn,Lc,Pv,Ny,dY,OJ,dV,MY,CK,BI,rm,rO]
     ·have rm:(c !=0)=true:=bne_iff_ne.2 hc;have rO:(c==0)=false:=beq_eq_false_iff_ne.2 hc;rw[s8 (.inr hc)]at zL;simp only[↓aN,aO,↓eH,gh,↓reduceIte,aa,ah,ak,ae,an,ao,aq,Tryz.f4,hJ vn,gM vn,ai,aj,ar,au,aw,aA,aB,aC,aD,aE,aF,aG,aj,hl,g0,g1,g2,Lj,D8,OG,zX,By,zL,hn,Lc,Pv,Ny,dY,OJ,dV,MY,J9,BI,rm,rO]
    ·have BI:(k !=8)=true:=bne_iff_ne.2 hk;rw[if_neg hk]at zX;by_cases hc:c=0
     ·have rm:(c !=0)=false:=by rw[hc];rfl
      have rO:(c==0)=true:=by rw[hc];rfl
      rw[vN rfl hc]at CK;simp only[↓aN,aO,↓eH,gh,↓reduceIte,aa,ah,ak,ae,an,ao,aq,Tryz.f4,hJ vn,gM vn,ai,aj,ar,au,aw,aA,aB,aC,aD,aE,aF,aG,aj,hl,g0,g1,g2,Lj,D8,OG,zX,By,zL,hn,Lc,Pv,Ny,dY,OJ,dV,MY,CK,BI,rm,rO]
     ·have rm:(c !=0)=true:=bne_iff_ne.2 hc;have rO:(c==0)=false:=beq_eq_false_iff_ne.2 hc;rw[s8 (.inr hc)]at zL;simp only[↓aN,aO,↓eH,gh,↓reduceIte,aa,ah,ak,ae,an,ao,aq,Tryz.f4,hJ vn,gM vn,ai,aj,ar,au,aw,aA,aB,aC,aD,aE,aF,aG,aj,hl,g0,g1,g2,Lj,D8,OG,zX,By,zL,hn,Lc,Pv,Ny,dY,OJ,dV,MY,J9,BI,rm,rO]
   ·have he1:(e !=0)=true:=bne_iff_ne.2 he;rw[if_pos he]at zX zL;rw[s8 (.inl he)]at zL;simp only[↓aN,aO,↓eH,gh,↓reduceIte,aa,ah,ak,ae,an,ao,aq,Tryz.f4,hJ vn,gM vn,ai,aj,ar,au,aw,aA,aB,aC,aD,aE,aF,aG,aj,hl,g0,g1,g2,Lj,D8,OG,zX,By,zL,hn,Lc,Pv,Ny,dY,OJ,dV,he1,J9]
  ·have Ny:decide (z≥0)=true:=b8 (by omega);have ZD:decide (z<=8)=false:=cg (by omega);by_cases he:e=0
   ·subst he;rw[if_neg (by simp)]at zX zL;by_cases hk:k=8
    ·have BI:(k !=8)=false:=by rw[hk];rfl
     rw[if_pos hk]at zX;by_cases hc:c=0
     ·have rm:(c !=0)=false:=by rw[hc];rfl
      have rO:(c==0)=true:=by rw[hc];rfl
      rw[vN rfl hc]at CK;simp only[↓aN,aO,↓eH,gh,↓reduceIte,aa,ah,ak,ae,an,ao,aq,Tryz.f4,hJ vn,gM vn,ai,aj,ar,au,aw,aA,aB,aC,aD,aE,aF,aG,aj,hl,g0,g1,g2,Lj,D8,OG,zX,By,zL,hn,Lc,Pv,Ny,ZD,dY,OJ,dV,MY,CK,BI,rm,rO]
     ·have rm:(c !=0)=true:=bne_iff_ne.2 hc;have rO:(c==0)=false:=beq_eq_false_iff_ne.2 hc;rw[s8 (.inr hc)]at zL;simp only[↓aN,aO,↓eH,gh,↓reduceIte,aa,ah,ak,ae,an,ao,aq,Tryz.f4,hJ vn,gM vn,ai,aj,ar,au,aw,aA,aB,aC,aD,aE,aF,aG,aj,hl,g0,g1,g2,Lj,D8,OG,zX,By,zL,hn,Lc,Pv,Ny,ZD,dY,OJ,dV,MY,J9,BI,rm,rO]
    ·have BI:(k !=8)=true:=bne_iff_ne.2 hk;rw[if_neg hk]at zX;by_cases hc:c=0
     ·have rm:(c !=0)=false:=by rw[hc];rfl
      have rO:(c==0)=true:=by rw[hc];rfl
      rw[vN rfl hc]at CK;simp only[↓aN,aO,↓eH,gh,↓reduceIte,aa,ah,ak,ae,an,ao,aq,Tryz.f4,hJ vn,gM vn,ai,aj,ar,au,aw,aA,aB,aC,aD,aE,aF,aG,aj,hl,g0,g1,g2,Lj,D8,OG,zX,By,zL,hn,Lc,Pv,Ny,ZD,dY,OJ,dV,MY,CK,BI,rm,rO]
     ·have rm:(c !=0)=true:=bne_iff_ne.2 hc;have rO:(c==0)=false:=beq_eq_false_iff_ne.2 hc;rw[s8 (.inr hc)]at zL;simp only[↓aN,aO,↓eH,gh,↓reduceIte,aa,ah,ak,ae,an,ao,aq,Tryz.f4,hJ vn,gM vn,ai,aj,ar,au,aw,aA,aB,aC,aD,aE,aF,aG,aj,hl,g0,g1,g2,Lj,D8,OG,zX,By,zL,hn,Lc,Pv,Ny,ZD,dY,OJ,dV,MY,J9,BI,rm,rO]
   ·have he1:(e !=0)=true:=bne_iff_ne.2 he;rw[if_pos he]at zX zL;rw[s8 (.inl he)]at zL;simp only[↓aN,aO,↓eH,gh,↓reduceIte,aa,ah,ak,ae,an,ao,aq,Tryz.f4,hJ vn,gM vn,ai,aj,ar,au,aw,aA,aB,aC,aD,aE,aF,aG,aj,hl,g0,g1,g2,Lj,D8,OG,zX,By,zL,hn,Lc,Pv,Ny,ZD,dY,OJ,dV,he1,J9]
end X1
end Go.Proofs.YtblnjkjjedanaaaGreatDoor
