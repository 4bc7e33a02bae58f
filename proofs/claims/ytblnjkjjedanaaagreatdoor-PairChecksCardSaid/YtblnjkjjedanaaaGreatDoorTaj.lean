/- A part of the proof that PairChecks returns true for every input; no condition of its own. -/
import Derived.Test.YtblnjkjjedanaaaGreatDoorTai
set_option linter.all false
set_option maxHeartbeats 100000000
set_option maxRecDepth 100000
open List renaming getD_eq_getElem?_getD->aQP,length_set->aO8,getElem?_append_left->aNq,getElem?_eq_getElem->aL5,getElem?_set_ne->aNh,take_length->aQV,length_take->aMo,drop_zero->aPp,getElem?_set_self->aNl,zipWith->aSR,getElem_of_mem->aTU,length_map->aTV,take_succ_cons->aPl,length_zipWith->aSY,length_append->aMf,set_eq_take_append_cons_drop->aTW,take_of_length_le->aPc,take_succ_eq_append_getElem->aTX,getElem_mem->aMn,eq_nil_of_length_eq_zero->aTY,replicate_succ->aPI,replicate->aK3,map_cons->aLJ,getElem?_append_right->aTZ,append_assoc->aRd,getElem?_eq_some_iff->aKS,not_mem_nil->aS7,map_nil->aMi,length_cons->aMm,length_nil->aO9,length_replicate->aT1,set_getElem_self->aT2,getElem_zipWith->aT3,mem_cons->aMc,all_cons->aN1,set_cons_zero->aT4,mem_map->aMg,all_nil->aPy,getElem?_take->aK6,flatMap_cons->aMk,getElem?_set->aKQ,flatMap_nil->aRu
open Option renaming getD_some->aMp,some->aKV,map_some->aLT
open Nat renaming mul_le_mul_right->aLL,pow_le_pow_right->aQT,mul_one->aPV,min_self->aT0,sub_self->aK0,zero_add->aLM,le_trans->aNm,reduceLT->aa,reduceEqDiff->ae,reduceAdd->ah,reduceLeDiff->ai,reduceBEq->aj,reduceMul->ak
open Bool renaming and_self->aPt,false_eq_true->aKT,and_eq_true->aLR
open Int renaming reduceLE->an,reduceToNat->aq,reduceBEq->aD,reduceBNe->aE,reduceEq->aF
namespace Go.Proofs.YtblnjkjjedanaaaGreatDoor
open Go Dv Dv.b7
variable{E:Env}[C:Ctx E]
def strs(qs:List Rat)(n i:Nat):List AV:=(qs.take i).map (fun q=>.str (dh q))++aK3 (n-i) (.str [])
theorem Xf{qs:List Rat}{i:Nat}(h:i<=qs.length):(strs qs qs.length i).length=qs.length:=by unfold strs;simp only[aMf,aTV,aMo,aT1];omega
theorem XH{qs:List Rat}{i:Nat}(h:i<qs.length):(strs qs qs.length i).set i (.str (dh (qs.getD i 0)))=strs qs qs.length (i+1):=by
 unfold strs;have h1:((qs.take i).map (fun q=>AV.str (dh q))).length=i:=by rw[aTV,aMo];omega
 rw[List.set_append,if_neg (by omega),h1,aK0,show qs.length-i=(qs.length-(i+1))+1 by omega,aPI,aT4,aTX h,List.map_append,aRd];rw[aQP,aL5 h,aMp];rfl
theorem af5{v:AV}:∀{n:Nat},iE [v] n=aK3 n v
 |0=>rfl
 |n+1=>by rw[iE,af5,aPI];rfl
theorem TK{H:Hp}{x y:cz}(h:1<=H.length):(eE (H++[x]) 0 y)[0]?=some y/\(eE (H++[x]) 0 y).length=H.length+1:=by rw[kD (by simp)];refine⟨by rw[aNl (by simp)],by simp⟩
theorem A7{v:AV}{qs:List Rat}(h:iY v qs){k:Nat}(b:BL k qs)(hk:k<=100000000000)(hn:qs.length<=1000):aP E 82 [v]=some (.aK (qs.map fun q=>.str (dh q)) qs.length):=by
 refine dX ?_;obtain⟨cs,rfl,rc⟩:=h;have iD:=rc.len;have Hf:=fun aL=>apc (E:=E) (aL:=aL) (m:=qs.length) (k:=.i64) (k':=.i64) (by omega)
 refine nY awl ?_;intro ts hl g0;unfold c82;simp only[↓aN,aO,aJ,aa,ae,Tryz.f82,hl,g0,Hf,af5];refine ft (fun k_ ts H=>∃i HH,k_=qs.length-i/\ts.length=23/\gt ts 3=.aI 0 0 qs.length 1 qs.length/\gt ts 9=.aK cs qs.length/\gt ts 10=.int .i64 (qs.length:Int)/\gt ts 11=.int .i64 (i:Int)/\H=HH/\(i<=qs.length)/\(HH[0]?=some (.cells .live (strs qs qs.length i)))/\(1<=HH.length)) (qs.length) ?_ ?_
 rotate_left
 ·refine⟨0,[.cells .live (aK3 qs.length (.str []))],(by first|omega|rfl|(simp;done)),(by simp only[cP,hl]),?_⟩;simp only[cR,hl,aa,ae]
  iterate 5 refine⟨by first|trivial|rfl|(congr 1;omega)|(simp;done)|(simp;omega),?_⟩
  refine⟨?_,?_,?_⟩
  ·omega
  ·rfl
  ·simp
 clear hl g0 ts;rintro k_ ts H ⟨i,HH,rfl,hl,g3,g9,g10,g11,rfl,hi,hb,h1⟩;refine VS ?_;have sT:=Xf hi;by_cases hd:i<qs.length
 ·have dc:decide ((i:Int)<(qs.length:Int))=true:=b8 (by omega);have mM:((i:Int)<(qs.length:Int))=True:=eq_true (by omega);have w1:aX .i64 ((i:Int)+1)=((i+1:Nat):Int):=by rw[wrap_i64 (by omega) (by omega)];omega
  obtain⟨n1,m1,n2,m2,e1,r1⟩:=rc.get hd;have p1:=kb (cs:=cs) (o:=i*4) (by omega);rw[e1]at p1;have A:=aW _ r1;have zT:=pM (E:=E) r1 (b.get hd) hk;have fZ:=kH (n:=1) (xs:=[.str (dh (qs.getD i 0))]) (H:=H++[.cells .live [.bool n1,m1,.bool n2,m2]]) (b:=0) (o:=i);rw[aNq (by omega),hb]at fZ;simp only at fZ;rw[if_pos (by simp[df,sT];omega),gb,show [AV.str (dh (qs.getD i 0))].length=1 from rfl]at fZ;have oc:List.take i (strs qs qs.length i)++[AV.str (dh (qs.getD i 0))]++List.drop (i+1) (strs qs qs.length i)=strs qs qs.length (i+1):=by
   rw[<-XH hd,aTW,if_pos (by omega)]
   simp
  rw[oc]at fZ;simp only[↓aN,aO,↓aQ,aJ,↓reduceIte,aa,ah,ae,hl,g3,g9,g10,g11,mM,w1,p1,A,zT,fZ,ep,CY,Ji,Rg];obtain⟨q1,q2⟩:=TK (x:=.cells .live [.bool n1,m1,.bool n2,m2]) (y:=.cells .live (strs qs qs.length (i+1))) h1;generalize eE (H++[cz.cells gu.live [.bool n1,m1,.bool n2,m2]]) 0 _=H2 at q1 q2⊢;refine dG ?_;refine⟨_,?_,i+1,H2,rfl,(by simp only[cP,hl]),?_⟩
  ·first|omega|(simp;omega)
  simp only[cR,hl,aa,ae,g3,g9,g10]
  iterate 5 refine⟨by first|trivial|rfl|(congr 1;omega)|(simp;done)|(simp;omega),?_⟩
  refine⟨?_,?_,?_⟩
  ·omega
  ·exact q1
  ·omega
 ·have dc:decide ((i:Int)<(qs.length:Int))=false:=cg (by omega);obtain rfl:i=qs.length:=by omega
  have Nw:strs qs qs.length qs.length=qs.map (fun q=>.str (dh q)):=by
   unfold strs
   simp
  rw[Nw]at hb;have gg:=iJ (H:=H) (b:=0) (m:=qs.length) (s:=1) (st:=.live) hb (by decide) (by simp) (by
   intro v hv;obtain⟨q,_,rfl⟩:=aMg.1 hv;exact fun _ _=>rfl)
  simp only[↓aN,aO,↓reduceIte,aa,ae,hl,g3,g10,g11,dc,gg]
def Tw.qs(t:Tw):List Rat:=[t.a.x,t.a.y,t.a.z,t.l.x,t.l.y,t.l.z]
theorem BT.bl{k:Nat}{t:Tw}(h:BT k t):BL k t.qs:=by
 intro q hq;simp only[Tw.qs,aMc,aS7,or_false]at hq;rcases hq with rfl|rfl|rfl|rfl|rfl|rfl
 ·exact h.1.1
 ·exact h.1.2.1
 ·exact h.1.2.2
 ·exact h.2.1
 ·exact h.2.2.1
 ·exact h.2.2.2
theorem Ix{jo ji jr jh kf jY kj j6 kh j7 ke j8}{a:V3}(h:eY (.agg [.bool jo,ji,.bool jr,jh,.bool kf,jY,.bool kj,j6,.bool kh,j7,.bool ke,j8]) a):dA (.agg [.bool jo,ji,.bool jr,jh]) a.x/\dA (.agg [.bool kf,jY,.bool kj,j6]) a.y/\dA (.agg [.bool kh,j7,.bool ke,j8]) a.z:=by obtain⟨kV,k7,kW,k6,lH,lK,lG,lI,lE,lL,lC,lF,e,h1,h2,h3⟩:=h;simp only[AV.agg.injEq,List.cons.injEq,AV.bool.injEq,and_true]at e;obtain⟨rfl,rfl,rfl,rfl,rfl,rfl,rfl,rfl,rfl,rfl,rfl,rfl⟩:=e;exact⟨h1,h2,h3⟩
theorem aip{jo ji jr jh kf jY kj j6 kh j7 ke j8 kV k7 kW k6 lH lK lG lI lE lL lC lF}{t:Tw}(h:eY (.agg [.bool jo,ji,.bool jr,jh,.bool kf,jY,.bool kj,j6,.bool kh,j7,.bool ke,j8]) t.a)(h':eY (.agg [.bool kV,k7,.bool kW,k6,.bool lH,lK,.bool lG,lI,.bool lE,lL,.bool lC,lF]) t.l):je [.bool jo,ji,.bool jr,jh,.bool kf,jY,.bool kj,j6,.bool kh,j7,.bool ke,j8,.bool kV,k7,.bool kW,k6,.bool lH,lK,.bool lG,lI,.bool lE,lL,.bool lC,lF] t.qs:=by obtain⟨a1,a2,a3⟩:=Ix h;obtain⟨b1,b2,b3⟩:=Ix h';exact .cons a1 (.cons a2 (.cons a3 (.cons b1 (.cons b2 (.cons b3 .nil)))))
theorem Si{E:Env}{t len n:Nat}{ag:Bool}(h:gv E t=some (len,ag,n)){cs:List AV}:Kr E t (.aK cs len)=some (.eX cs 0):=by
 unfold gv at h;cases hi:E.ty t with
 |none=>rw[hi]at h;cases h
 |some i=>
  rw[hi]at h;obtain⟨cV,isAgg,size,bytes,zero,eS⟩:=i;cases cV<;>first|(cases h;done)|skip
  rename_i ln e;simp only at h;cases he:E.ty e with
  |none=>rw[he]at h;cases h
  |some ei=>
   rw[he]at h;simp only[aKV.injEq,Prod.mk.injEq]at h;obtain⟨e1,-,-⟩:=h;subst e1;simp[Kr,hi]
theorem vZ{v:AV}{t:Tw}(h:wi v t){k:Nat}(bt:BT k t)(hk:k<=100000000000):aP E 41 [v]=some (.agg (t.qs.map fun q=>.str (dh q))):=by
 refine dX ?_;obtain⟨J8,Km,Kz,JK,Ng,MV,N1,Nc,ND,Ol,NW,Oe,G6,G3,Hg,Hb,GB,E7,U7,T4,VR,Vz,VG,VJ,rfl,ha,hb⟩:=h;have hj:=LL (E:=E) ha hb;have hr:=aip ha hb;have hn:=A7 (E:=E) (v:=.aK [.bool J8,Km,.bool Kz,JK,.bool Ng,MV,.bool N1,Nc,.bool ND,Ol,.bool NW,Oe,.bool G6,G3,.bool Hg,Hb,.bool GB,E7,.bool U7,T4,.bool VR,Vz,.bool VG,VJ] 6) ⟨_,rfl,hr⟩ bt.bl hk (by simp[Tw.qs]);have A:=bP ha;have B:=bP hb;have h2a:=Si (E:=E) ac0 (cs:=t.qs.map fun q=>.str (dh q));have hp:fD true 6 (t.qs.map fun q=>AV.str (dh q)) 0=some (.agg (t.qs.map fun q=>.str (dh q))):=rfl;refine nY az8 ?_;intro ts hl g0;unfold c41;have Ox:t.qs.length=6:=rfl;rw[Ox]at hn;simp only[Tw.qs,aLJ,aMi]at hn h2a hp⊢
 simp(maxSteps:=1000000)only[↓aN,aO,↓aQ,aJ,↓reduceIte,aa,ah,ae,Tryz.f41,ai,hl,g0,A,B,hj,hn,h2a,hp]
def gU(L:Int):List (List UInt8)->Int
 |[]=>0
 |s::t=>if cN L s≠0 then cN L s else gU L t
theorem Gu{L:Int}:∀{ss:List (List UInt8)} {i:Nat},i<ss.length->gU L (ss.take i)=0->gU L (ss.take (i+1))=cN L (ss.getD i [])
 |[],i,h,_=>by simp at h
 |s::t,0,_,_=>by
  simp only[aPl,List.take_zero,gU,List.getD_cons_zero]
  split<;>simp_all
 |s::t,i+1,h,h0=>by
  rw[aPl,gU]at h0⊢;by_cases hs:cN L s≠0
  ·rw[if_pos hs]at h0;exact absurd h0 hs
  ·rw[if_neg hs]at h0⊢;rw[List.getD_cons_succ];exact Gu (by simpa using h) h0
theorem Fz{L:Int}:∀{ss:List (List UInt8)} {i:Nat},i<ss.length->gU L (ss.take (i+1))≠0->gU L ss=gU L (ss.take (i+1))
 |[],i,h,_=>by simp at h
 |s::t,0,_,h=>by
  simp only[aPl,List.take_zero,gU]at h⊢;by_cases hs:cN L s≠0
  ·rw[if_pos hs,if_pos hs]
  ·rw[if_neg hs]at h;exact absurd rfl h
 |s::t,i+1,hi,h=>by
  rw[aPl,gU]at h⊢;rw[gU];by_cases hs:cN L s≠0
  ·rw[if_pos hs,if_pos hs]
  ·rw[if_neg hs]at h⊢;rw[if_neg hs];exact Fz (by simpa using hi) h
def HV(ss:List (List UInt8))(i:Nat):List Rat:=(ss.take i).map fh++aK3 (ss.length-i) 0
theorem Mb{ss:List (List UInt8)}{i:Nat}(h:i<=ss.length):(HV ss i).length=ss.length:=by unfold HV;simp only[aMf,aTV,aMo,aT1];omega
theorem YU{ss:List (List UInt8)}{i:Nat}(h:i<ss.length):(HV ss i).set i (fh (ss.getD i []))=HV ss (i+1):=by
 unfold HV;have h1:((ss.take i).map fh).length=i:=by rw[aTV,aMo];omega
 rw[List.set_append,if_neg (by omega),h1,aK0,show ss.length-i=(ss.length-(i+1))+1 by omega,aPI,aT4,aTX h,List.map_append,aRd];rw[aQP,aL5 h,aMp];rfl
theorem Zc{ss:List (List UInt8)}{i:Nat}(h:i<ss.length):fD false 1 (ss.map AV.str) i=some (.str (ss.getD i [])):=by simp[fD,h,aQP]
theorem KL{H:Hp}{b m s:Nat}{cs:List AV}{st:gu}{y:AV}(h:H[b]?=some (.cells st cs))(hd:st≠ .dead)(hm:cs.length=m*s)(hf:∀v∈cs,Flat v)(hy:Flat y):ow false H [.tuple [.aI b 0 m s m,y]]=some ([.tuple [.aK cs m,y]],[b]):=by
 rw[nQ];have h2:List.take (m*s) (List.drop 0 cs)=cs:=by rw[aPp,<-hm,aQV]
 have h3:=oe (n:=38) (off:=0) (len:=m) (esz:=s) (k:=m) h hd (by omega) (by rw[h2];exact gf hf);have h4:fz H 40 (.tuple [.aI b 0 m s m,y])=some (.tuple [.aK cs m,y],[b]):=by unfold fz;simp only;unfold dP;rw[h3];unfold dP;rw[hy H 38];unfold dP;simp only[iP,eo,aLT,aLJ,aMi,aMk,aRu,List.append_nil]
 unfold bW;rw[show bE [AV.tuple [.aI b 0 m s m,y]]=false by simp[bE,aU]];simp only[aKT,if_false];unfold dP;rw[h4];unfold dP;rfl
theorem Yb{f:Nat}{L:Int}(hf:bQ E f=false){ss:List (List UInt8)}(hs:∀s∈ss,s.length<=4611686018427387904)(hn:ss.length<=1000)
  (hr:∀s:List UInt8,s.length<=4611686018427387904->∃r,aP E f [.str s]=some (.tuple [r,.int .i64 (cN L s)])/\dA r (if cN L s=0 then fh s else 0)):
  ∃r,aP E 95 [.aK (ss.map AV.str) ss.length,.func f [] []]=some (.tuple [r,.int .i64 (gU L ss)])/\(gU L ss=0->iY r (ss.map fh))/\(gU L ss≠0->r=.aH):=by
 suffices hh:∃u,aP E 95 [.aK (ss.map AV.str) ss.length,.func f [] []]=some u/\∃r,u=.tuple [r,.int .i64 (gU L ss)]/\(gU L ss=0->iY r (ss.map fh))/\(gU L ss≠0->r=.aH)by
  obtain⟨u,h1,r,rfl,h2⟩:=hh;exact⟨r,h1,h2⟩
 have nN:=fun{dr st:Bool} {bl:List AV} {H:Hp} {k:AV->cE->Prop}=>gn (E:=E) (dr:=dr) (st:=st) (f:=f) (bl:=bl) (H:=H) (k:=k) hf
 have Hf:=fun aL=>zM (E:=E) (aL:=aL) (m:=ss.length) (k:=.i64) (k':=.i64) (by omega)
 refine tp aAn ?_;intro ts hl g0 g1;unfold c95;simp only[↓aN,aO,aJ,aa,ae,Tryz.f95,hl,g0,Hf];refine ft (fun k_ ts H=>∃i cs,k_=ss.length-i/\ts.length=34/\gt ts 1=.func f [] []/\gt ts 6=.aI 0 0 ss.length 4 ss.length/\gt ts 13=.aK (ss.map AV.str) ss.length/\gt ts 14=.int .i64 (ss.length:Int)/\gt ts 15=.int .i64 (i:Int)/\H=[.cells .live cs]/\(i<=ss.length)/\(je cs (HV ss i))/\(gU L (ss.take i)=0)) (ss.length) ?_ ?_
 rotate_left
 ·refine⟨0,(iE [.bool false,.aH,.bool false,.aH] ss.length),(by first|omega|rfl|(simp;done)),(by simp only[cP,hl]),?_⟩;simp only[cR,hl,aa,ae,g1]
  iterate 6 refine⟨by first|trivial|rfl|(congr 1;omega)|(simp;done)|(simp;omega),?_⟩
  refine⟨?_,?_,?_⟩
  ·omega
  ·exact je.E9 _
  ·rfl
 clear hl g0 g1 ts;rintro k_ ts H ⟨i,cs,rfl,hl,g1,g6,g13,g14,g15,rfl,hi,hc,h0⟩;refine VS ?_;have iD:=hc.len;rw[Mb hi]at iD;by_cases hd:i<ss.length
 ·have dc:decide ((i:Int)<(ss.length:Int))=true:=b8 (by omega);have mM:((i:Int)<(ss.length:Int))=True:=eq_true (by omega);have w1:aX .i64 ((i:Int)+1)=((i+1:Nat):Int):=by rw[wrap_i64 (by omega) (by omega)];omega
  have p1:=Zc hd;have Pt:ss.getD i []∈ss:=by rw[aQP,aL5 hd,aMp];exact aMn hd
  have hcd:=Gu hd h0;obtain⟨r,xd,ir⟩:=hr _ (hs _ Pt);obtain⟨n5,m5,n6,m6,_,_,rfl,-,-,-,-⟩:=bX ir;have D:=aW _ ir;have fZ:=wu (H:=[.cells .live cs]) (b:=0) (o:=i*4) (cs:=cs) (xs:=[.bool n5,m5,.bool n6,m6]) rfl rfl (by omega) (by simp only[aN1,oK,D.2.1,D.2.2.2,aPy,aPt]);have UM:decide (i*4+4<=cs.length)=true:=b8 (by omega);by_cases hz:cN L (ss.getD i [])=0
  ·rw[hz]at xd;rw[if_pos hz]at ir;have oc:=hc.set (i:=i) (by rw[Mb hi];exact hd) ir;rw[YU hd]at oc;simp only[↓aN,aO,aJ,↓reduceIte,aa,ah,ae,aE,hl,g1,g6,g13,g14,g15,mM,w1,p1,nN,xd,fZ];refine dG ?_;refine⟨_,?_,i+1,cH cs (i*4) [.bool n5,m5,.bool n6,m6],rfl,(by simp only[cP,hl]),?_⟩
   ·first|omega|(simp;omega)
   simp only[cR,hl,aa,ae,g1,g6,g13,g14]
   iterate 6 refine⟨by first|trivial|rfl|(congr 1;omega)|(simp;done)|(simp;omega),?_⟩
   refine⟨?_,?_,?_⟩
   ·omega
   ·exact oc
   ·rw[hcd];exact hz
  ·have hzb:(cN L (ss.getD i [])!=0)=true:=bne_iff_ne.2 hz;have Nw:=Fz hd (by rw[hcd];exact hz);rw[hcd]at Nw;simp only[↓aN,aO,aJ,↓reduceIte,aa,ah,ae,hl,g1,g6,g13,g14,g15,mM,p1,nN,xd,fZ,hzb];rw[Nw];exact⟨_,rfl,fun e=>absurd e hz,fun _=>rfl⟩
 ·have dc:decide ((i:Int)<(ss.length:Int))=false:=cg (by omega);obtain rfl:i=ss.length:=by omega
  have gg:=KL (H:=[.cells .live cs]) (b:=0) (m:=ss.length) (s:=4) (st:=.live) (y:=.int .i64 0) rfl (by decide) iD hc.flat (fun _ _=>rfl);rw[aQV]at h0;have hv:HV ss ss.length=ss.map fh:=by simp[HV]
  rw[hv]at hc;simp only[↓aN,aO,↓reduceIte,aa,ae,hl,g6,g14,g15,dc,gg];rw[h0];exact⟨_,rfl,fun _=>⟨cs,by rw[aTV],hc⟩,fun e=>absurd rfl e⟩
theorem GD{ss:List (List UInt8)}(hs:∀s∈ss,s.length<=4611686018427387904)(hn:ss.length<=1000):
  ∃r,aP E 52 [.aK (ss.map AV.str) ss.length]=some (.tuple [r,.int .i64 (gU 65536 ss)])/\(gU 65536 ss=0->iY r (ss.map fh))/\(gU 65536 ss≠0->r=.aH):=by
 obtain⟨r,hr,h1,h2⟩:=Yb (E:=E) (f:=39) (L:=65536) (bS C (by kernel_rfl)) hs hn (fun s h=>mZ (E:=E) h)
 suffices hh:∃u,aP E 52 [.aK (ss.map AV.str) ss.length]=some u/\u=.tuple [r,.int .i64 (gU 65536 ss)]by
  obtain⟨u,e,rfl⟩:=hh;exact⟨r,e,h1,h2⟩
 have pr:aU r=true:=by
  by_cases hz:gU 65536 ss=0
  ·exact(h1 hz).pure
  ·rw[h2 hz];rfl
 refine nY ayF ?_;intro ts hl g0;unfold c52;simp only[↓aN,aO,↓aQ,aJ,aa,ae,Tryz.f52,hl,g0,hr,pr]
theorem Wl{E:Env}{ts:List AV}{d:Option Nat}{t:Nat}{p:String}{af:Array Edge}{t1 s rR:Nat}{ag:Bool}{z:List AV}{x:Operand}{lo hi mx:Option Operand}{e:cE}(hS:eu E t1=some (ag,s,rR,z)):bH E ts ⟨d,.slice t1 x lo hi mx,t,p,af,none⟩ e=([],[]):=by obtain⟨ti,e',ei,h1,h2,h3,h4,h5,_⟩:=ij hS;obtain⟨cV,isAgg,size,bytes,zero,eS⟩:=ti;simp only at h2;subst h2;unfold bH;simp only[ka,h1]
theorem YG{E:Env}{t s rR:Nat}{ag:Bool}{z:List AV}(hS:eu E t=some (ag,s,rR,z)){H:Hp}{cs:List AV}{n k:Nat}{i:IntKind}(hk:k<=n)(h0:0<k):Ez E H t (.aK cs n) none (some (.int i (k:Int)))=some (.aK (cs.take (k*s)) k):=by
 obtain⟨ti,e,ei,h1,h2,h3,h4,h5,_⟩:=ij hS;obtain⟨cV,isAgg,size,bytes,zero,eS⟩:=ti;simp only at h2;subst h2 h5;simp only[Ez,h1,iS,h3,RQ hk];rw[if_neg (by omega)]
 simp
theorem WO{E:Env}{t s rR:Nat}{ag:Bool}{z:List AV}(hS:eu E t=some (ag,s,rR,z)){H:Hp}{cs:List AV}{n k:Nat}{i:IntKind}(hk:k<n)(hl:cs.length=n*s):Ez E H t (.aK cs n) (some (.int i (k:Int))) none=some (.aK (cs.drop (k*s)) (n-k)):=by
 obtain⟨ti,e,ei,h1,h2,h3,h4,h5,_⟩:=ij hS;obtain⟨cV,isAgg,size,bytes,zero,eS⟩:=ti;simp only at h2;subst h2 h5;simp only[Ez,h1,iS,h3,KV (Nat.le_of_lt hk)];rw[if_neg (by omega),aPc (by rw[List.length_drop,hl,Nat.sub_mul];exact Nat.le_refl _)]
def tw0:Tw:=⟨v0,v0⟩
theorem awv{cs:List AV}{q0 q1 q2 q3 q4 q5:Rat}(h:je cs [q0,q1,q2,q3,q4,q5]):∃jo ji jr jh kf jY kj j6 kh j7 ke j8 kV k7 kW k6 lH lK lG lI lE lL lC lF,cs=[.bool jo,ji,.bool jr,jh,.bool kf,jY,.bool kj,j6,.bool kh,j7,.bool ke,j8,.bool kV,k7,.bool kW,k6,.bool lH,lK,.bool lG,lI,.bool lE,lL,.bool lC,lF]/\eY (.agg [.bool jo,ji,.bool jr,jh,.bool kf,jY,.bool kj,j6,.bool kh,j7,.bool ke,j8]) ⟨q0,q1,q2⟩/\eY (.agg [.bool kV,k7,.bool kW,k6,.bool lH,lK,.bool lG,lI,.bool lE,lL,.bool lC,lF]) ⟨q3,q4,q5⟩:=by
 cases h with
 |cons a0 h=>cases h with
  |cons a1 h=>cases h with
   |cons a2 h=>cases h with
    |cons a3 h=>cases h with
     |cons a4 h=>cases h with
      |cons a5 h=>cases h with
       |nil=>exact⟨_,_,_,_,_,_,_,_,_,_,_,_,_,_,_,_,_,_,_,_,_,_,_,_,rfl,⟨_,_,_,_,_,_,_,_,_,_,_,_,rfl,a0,a1,a2⟩,⟨_,_,_,_,_,_,_,_,_,_,_,_,rfl,a3,a4,a5⟩⟩
theorem ML{s0 s1 s2 s3 s4 s5:List UInt8}(hs:∀s∈[s0,s1,s2,s3,s4,s5],s.length<=4611686018427387904):
  ∃a b,aP E 57 [.agg [.str s0,.str s1,.str s2,.str s3,.str s4,.str s5]]=some (.tuple [a,b,.int .i64 (gU 65536 [s0,s1,s2,s3,s4,s5])])/\eY a (if gU 65536 [s0,s1,s2,s3,s4,s5]=0 then⟨fh s0,fh s1,fh s2⟩else v0)/\eY b (if gU 65536 [s0,s1,s2,s3,s4,s5]=0 then⟨fh s3,fh s4,fh s5⟩else v0):=by
 suffices hh:∃u,aP E 57 [.agg [.str s0,.str s1,.str s2,.str s3,.str s4,.str s5]]=some u/\∃a b,u=.tuple [a,b,.int .i64 (gU 65536 [s0,s1,s2,s3,s4,s5])]/\eY a (if gU 65536 [s0,s1,s2,s3,s4,s5]=0 then⟨fh s0,fh s1,fh s2⟩else v0)/\eY b (if gU 65536 [s0,s1,s2,s3,s4,s5]=0 then⟨fh s3,fh s4,fh s5⟩else v0)by
  obtain⟨u,h1,a,b,rfl,h2⟩:=hh;exact⟨a,b,h1,h2⟩
 obtain⟨r,hr,h1,h2⟩:=GD (E:=E) hs (by simp);simp only[aLJ,aMi,aMm,aO9,aLM,ah]at hr h1;generalize gU 65536 [s0,s1,s2,s3,s4,s5]=cd at*;have sT:=GU (E:=E) azp (H:=[.cells .live [.str s0,.str s1,.str s2,.str s3,.str s4,.str s5],.cells .live [.bool false,.aH,.bool false,.aH,.bool false,.aH,.bool false,.aH,.bool false,.aH,.bool false,.aH],.cells .live [.bool false,.aH,.bool false,.aH,.bool false,.aH,.bool false,.aH,.bool false,.aH,.bool false,.aH]]) (b:=0) (st:=.live) rfl (by decide) rfl (by decide) (by decide);have gg:=iJ (H:=[.cells .live [.str s0,.str s1,.str s2,.str s3,.str s4,.str s5],.cells .live [.bool false,.aH,.bool false,.aH,.bool false,.aH,.bool false,.aH,.bool false,.aH,.bool false,.aH],.cells .live [.bool false,.aH,.bool false,.aH,.bool false,.aH,.bool false,.aH,.bool false,.aH,.bool false,.aH]]) (b:=0) (m:=6) (s:=1) (st:=.live) rfl (by decide) rfl (by
  intro v hv;simp only[aMc,aS7,or_false]at hv;rcases hv with rfl|rfl|rfl|rfl|rfl|rfl<;>exact fun _ _=>rfl)
 refine nY ayJ ?_;intro ts hl g0;unfold c57;by_cases hz:cd=0
 ·subst hz;obtain⟨cs,e,rc⟩:=h1 rfl;simp only[aMm,aO9,aLM,ah]at e;subst e;obtain⟨jo,ji,jr,jh,kf,jY,kj,j6,kh,j7,ke,j8,kV,k7,kW,k6,lH,lK,lG,lI,lE,lL,lC,lF,rfl,hx,hy⟩:=awv rc;have X:=bP hx;have Y:=bP hy;have Av:∀l n,bR (.tuple [.aK l n,.int .i64 0])=false:=fun l n=>rfl
  have t1:∀H,Ez E H 118 (.aK [.bool jo,ji,.bool jr,jh,.bool kf,jY,.bool kj,j6,.bool kh,j7,.bool ke,j8,.bool kV,k7,.bool kW,k6,.bool lH,lK,.bool lG,lI,.bool lE,lL,.bool lC,lF] 6) none (some (.int .i64 3))=some (.aK [.bool jo,ji,.bool jr,jh,.bool kf,jY,.bool kj,j6,.bool kh,j7,.bool ke,j8] 3):=fun H=>YG (E:=E) vj (H:=H) (cs:=[.bool jo,ji,.bool jr,jh,.bool kf,jY,.bool kj,j6,.bool kh,j7,.bool ke,j8,.bool kV,k7,.bool kW,k6,.bool lH,lK,.bool lG,lI,.bool lE,lL,.bool lC,lF]) (n:=6) (k:=3) (i:=.i64) (by decide) (by decide)
  have t2:∀H,Ez E H 118 (.aK [.bool jo,ji,.bool jr,jh,.bool kf,jY,.bool kj,j6,.bool kh,j7,.bool ke,j8,.bool kV,k7,.bool kW,k6,.bool lH,lK,.bool lG,lI,.bool lE,lL,.bool lC,lF] 6) (some (.int .i64 3)) none=some (.aK [.bool kV,k7,.bool kW,k6,.bool lH,lK,.bool lG,lI,.bool lE,lL,.bool lC,lF] 3):=fun H=>WO (E:=E) vj (H:=H) (cs:=[.bool jo,ji,.bool jr,jh,.bool kf,jY,.bool kj,j6,.bool kh,j7,.bool ke,j8,.bool kV,k7,.bool kW,k6,.bool lH,lK,.bool lG,lI,.bool lE,lL,.bool lC,lF]) (n:=6) (k:=3) (i:=.i64) (by decide) rfl
  have t3:∀cs,Kr E 72 (.aK cs 3)=some (.eX cs 0):=fun cs=>Si (E:=E) aaf
  have t4:fD true 12 [.bool jo,ji,.bool jr,jh,.bool kf,jY,.bool kj,j6,.bool kh,j7,.bool ke,j8] 0=some (.agg [.bool jo,ji,.bool jr,jh,.bool kf,jY,.bool kj,j6,.bool kh,j7,.bool ke,j8]):=rfl;have t5:fD true 12 [.bool kV,k7,.bool kW,k6,.bool lH,lK,.bool lG,lI,.bool lE,lL,.bool lC,lF] 0=some (.agg [.bool kV,k7,.bool kW,k6,.bool lH,lK,.bool lG,lI,.bool lE,lL,.bool lC,lF]):=rfl
  simp(maxSteps:=1000000)only[↓aN,aO,↓aQ,aJ,↓reduceIte,aa,ah,ae,Tryz.f57,aE,hl,g0,sT,gg,hr,Av,t1,t2,t3,t4,t5,X,Y,wg,Wl (E:=E) vj]
  exact⟨_,_,rfl,hx,hy⟩
 ·obtain rfl:=h2 hz;have hzb:(cd !=0)=true:=bne_iff_ne.2 hz;have Av:bR (.tuple [.aH,.int .i64 cd])=true:=rfl
  simp(maxSteps:=1000000)only[↓aN,aO,↓aQ,aJ,↓reduceIte,aa,ah,ae,Tryz.f57,aj,aj,hl,g0,sT,gg,hr,hzb,Av]
  exact⟨_,_,rfl,by rw[if_neg hz];exact vC,by rw[if_neg hz];exact vC⟩
def twS(s0 s1 s2 s3 s4 s5:List UInt8):Tw:=if gU 65536 [s0,s1,s2,s3,s4,s5]=0 then⟨⟨fh s0,fh s1,fh s2⟩,⟨fh s3,fh s4,fh s5⟩⟩else tw0
theorem Jr{s0 s1 s2 s3 s4 s5:List UInt8}(hs:∀s∈[s0,s1,s2,s3,s4,s5],s.length<=4611686018427387904):
  ∃a,aP E 23 [.agg [.str s0,.str s1,.str s2,.str s3,.str s4,.str s5]]=some (.tuple [a,.int .i64 (gU 65536 [s0,s1,s2,s3,s4,s5])])/\wi a (twS s0 s1 s2 s3 s4 s5):=by
 suffices hh:∃u,aP E 23 [.agg [.str s0,.str s1,.str s2,.str s3,.str s4,.str s5]]=some u/\∃a,u=.tuple [a,.int .i64 (gU 65536 [s0,s1,s2,s3,s4,s5])]/\wi a (twS s0 s1 s2 s3 s4 s5)by
  obtain⟨u,h1,a,rfl,h2⟩:=hh;exact⟨a,h1,h2⟩
 obtain⟨a,b,hr,ha,hb⟩:=ML (E:=E) hs;have VQ:eY a (twS s0 s1 s2 s3 s4 s5).a:=by unfold twS;split<;>simp_all [tw0]
 have OI:eY b (twS s0 s1 s2 s3 s4 s5).l:=by unfold twS;split<;>simp_all [tw0]
 generalize gU 65536 [s0,s1,s2,s3,s4,s5]=cd at*;obtain⟨jo,ji,jr,jh,kf,jY,kj,j6,kh,j7,ke,j8,rfl,-,-,-,P,O⟩:=bM VQ;obtain⟨kV,k7,kW,k6,lH,lK,lG,lI,lE,lL,lC,lF,rfl,-,-,-,P1,O1⟩:=bM OI;refine nY axi ?_;intro ts hl g0;unfold c23
 simp(maxSteps:=1000000)only[↓aN,aO,↓aQ,aJ,↓reduceIte,aa,ah,ae,Tryz.f23,ai,hl,g0,hr,P,O,P1,O1]
 exact⟨_,rfl,jo,ji,jr,jh,kf,jY,kj,j6,kh,j7,ke,j8,kV,k7,kW,k6,lH,lK,lG,lI,lE,lL,lC,lF,rfl,VQ,OI⟩
theorem DS{E:Env}{t s rR:Nat}{ag:Bool}{z:List AV}{aL:Nat}(hS:eu E t=some (ag,s,rR,z))(hz:z.length=s)(hs:0<s):aT E aL t 0 []=some (.aI aL 0 0 s 0,[(aL,.cells .live [])]):=by obtain⟨i,e,ei,h1,h2,h3,h4,h5,h6,h7⟩:=ij hS;obtain⟨cV,isAgg,size,bytes,zero,eS⟩:=i;simp only at h2;subst h2 h5;simp[aT,h1,h3,h7,gV,iE,hz,hs]
theorem MW{E:Env}{t s rR n:Nat}{ag:Bool}{z cs:List AV}{H:Hp}(hS:eu E t=some (ag,s,rR,z))(hs:0<s)(sd:cs.length=n*s)(hx:cs.all df=true)(hr:n*rR<=gO)(QH:0<n)(hn:n<=4611686018427387904):
  aV E (H++[cz.cells gu.live []]) (H++[cz.cells gu.live []]).length .append [t,t] [.aI H.length 0 0 s 0,.aK cs n]=some (.aI (H.length+1) 0 n s n,[(H.length,.cells .dead []),(H.length+1,.cells .live cs)]):=by
 obtain⟨i,e,ei,h1,h2,h3,h4,h5,h6,h7⟩:=ij hS;subst h5 h6;have hsr:sV (H++[cz.cells gu.live []]) ei.size (.aK cs n)=some cs:=by simp[sV,kJ,sd]
 have:=AX (E:=E) (H:=H++[cz.cells gu.live []]) (aL:=(H++[cz.cells gu.live []]).length) (b:=H.length) (off:=0) (len:=0) (kc:=0) (n:=n) (cs:=[]) h1 h2 h3 (x:=.aK cs n) rfl hsr QH (by omega) hx (by simp[h7]) (by simpa using hr) (by omega) (by simp) (by omega) (by simp)
 rw[builtin_append h1 h2 rfl];simpa using this
theorem Ik{H:Hp}{cs:List AV}:(cE.bU [(H.length,.cells .dead []),(H.length+1,.cells .live cs)]).app (H++[cz.cells gu.live []])=H++[.cells .dead [],.cells .live cs]:=by
 rw[kI];have h1:eE (H++[cz.cells gu.live []]) H.length (.cells .dead [])=H++[.cells .dead []]:=CY;rw[h1];have h2:H.length+1=(H++[cz.cells gu.dead []]).length:=by simp
 rw[h2,ep]
 simp
theorem Lr{H:Hp}{cs:List AV}{n:Nat}(sd:cs.length=n*1)(hx:cs.all df=true)(QH:0<n)(hn:n<=1000000):de E 198 [.aK cs n] H=some (.aI (H.length+1) 0 n 1 n,H++[.cells .dead [],.cells .live cs]):=by
 suffices hh:∃r H',de E 198 [.aK cs n] H=some (r,H')/\(r=.aI (H.length+1) 0 n 1 n/\H'=H++[.cells .dead [],.cells .live cs])by
  obtain⟨r,H',h1,rfl,rfl⟩:=hh;exact h1
 have ha:=MW (E:=E) (H:=H) vQ (by decide) sd hx (by unfold gO;omega) QH (by omega);have hb:=fun aL=>DS (E:=E) (aL:=aL) vQ rfl (by decide)
 have he:∀{c:Bool},dC E c .eql 216 (.aK cs n) .aH=some (.bool false):=fun{c}=>by rw[AB (vQ (E:=E)) (show k9 (.aK cs n)≠none by simp[k9])]
 have hc:=Ik (H:=H) (cs:=cs);refine RL (by rw[C.sj]) (by rw[C.fn];exact aqc) (by decide) ?_;intro ts hl g0;unfold an9;simp only[↓aN,aO,aa,ae,Tryz.f198,hl,g0,he,hb,ep,ha,hc]
theorem M5{H:Hp}{cs:List AV}{n:Nat}(sd:cs.length=n*4)(hx:cs.all df=true)(QH:0<n)(hn:n<=1000000):de E 172 [.aK cs n] H=some (.aI (H.length+1) 0 n 4 n,H++[.cells .dead [],.cells .live cs]):=by
 suffices hh:∃r H',de E 172 [.aK cs n] H=some (r,H')/\(r=.aI (H.length+1) 0 n 4 n/\H'=H++[.cells .dead [],.cells .live cs])by
  obtain⟨r,H',h1,rfl,rfl⟩:=hh;exact h1
 have ha:=MW (E:=E) (H:=H) vj (by decide) sd hx (by unfold gO;omega) QH (by omega);have hb:=fun aL=>DS (E:=E) (aL:=aL) vj rfl (by decide)
 have he:∀{c:Bool},dC E c .eql 118 (.aK cs n) .aH=some (.bool false):=fun{c}=>by rw[AB (vj (E:=E)) (show k9 (.aK cs n)≠none by simp[k9])]
 have hc:=Ik (H:=H) (cs:=cs);refine RL (by rw[C.sj]) (by rw[C.fn];exact aq9) (by decide) ?_;intro ts hl g0;unfold apY;simp only[↓aN,aO,aa,ae,Tryz.f172,hl,g0,he,hb,ep,ha,hc]
def row(rows:List (List Rat))(i:Nat):List Rat:=rows.getD i []
def iN(rows:List (List Rat))(i k:Nat):Rat:=(row rows i).getD k 0
def oq(vs:List AV)(rows:List (List Rat))(w:Nat):Prop:=vs.length=rows.length/\∀i,i<rows.length->iY (vs.getD i aZ) (row rows i)/\(row rows i).length=w
def rH(k:Nat)(rows:List (List Rat)):Prop:=∀i,i<rows.length->BL k (row rows i)
theorem oW{rows:List (List Rat)}{i j:Nat}{q:List Rat}(hi:i<rows.length):row (rows.set i q) j=if i=j then q else row rows j:=by
 unfold row;rw[aQP,aKQ];by_cases h:i=j
 ·rw[if_pos h,if_pos h,if_pos (by omega)];rfl
 ·rw[if_neg h,if_neg h,<-aQP]
theorem I4{vs:List AV}{i j:Nat}{v:AV}(hi:i<vs.length):(vs.set i v).getD j aZ=if i=j then v else vs.getD j aZ:=by
 rw[aQP,aKQ];by_cases h:i=j
 ·rw[if_pos h,if_pos h,if_pos (by omega)];rfl
 ·rw[if_neg h,if_neg h,<-aQP]
theorem oq.set{vs:List AV}{rows:List (List Rat)}{w i:Nat}{v:AV}{q:List Rat}(h:oq vs rows w)(hi:i<rows.length)(hv:iY v q)(hq:q.length=w):oq (vs.set i v) (rows.set i q) w:=by
 refine⟨by rw[aO8,aO8,h.1],fun j hj=>?_⟩;rw[aO8]at hj;rw[oW hi,I4 (by rw[h.1];exact hi)];by_cases e:i=j
 ·rw[if_pos e,if_pos e];exact⟨hv,hq⟩
 ·rw[if_neg e,if_neg e];exact h.2 j hj
def AP(rows:List (List Rat))(i r:Nat):List (List Rat):=(rows.set i (row rows r)).set r (row rows i)
theorem oq.swap{vs:List AV}{rows:List (List Rat)}{w i r:Nat}(h:oq vs rows w)(hi:i<rows.length)(hr:r<rows.length):oq ((vs.set i (vs.getD r aZ)).set r (vs.getD i aZ)) (AP rows i r) w:=
 (h.set hi (h.2 r hr).1 (h.2 r hr).2).set (by rw[aO8];exact hr) (h.2 i hi).1 (h.2 i hi).2
theorem rH.set{k:Nat}{rows:List (List Rat)}{i:Nat}{q:List Rat}(h:rH k rows)(hi:i<rows.length)(hq:BL k q):rH k (rows.set i q):=by
 intro j hj;rw[aO8]at hj;rw[oW hi]
 split
 ·exact hq
 ·exact h j hj
def fV(rows:List (List Rat))(r k:Nat):List (List Rat):=rows.set r (aSR (fun x _=>x/iN rows r k) (row rows r) (row rows r))
def eU(rows:List (List Rat))(r k:Nat):Nat->List (List Rat)
 |0=>rows
 |j+1=>if j≠r/\iN (eU rows r k j) j k≠0 then(eU rows r k j).set j (aSR (fun x y=>x-iN (eU rows r k j) j k*y) (row (eU rows r k j) j) (row (eU rows r k j) r))else eU rows r k j
theorem qL{rows:List (List Rat)}{r k:Nat}:∀{j:Nat},(eU rows r k j).length=rows.length
 |0=>rfl
 |j+1=>by
  rw[eU]
  split
  ·rw[aO8,qL]
  ·exact qL
inductive EY(eZ:List (List Rat)):Nat->List (List Rat)->List Nat->Prop
 |start:EY eZ 0 eZ []
 |skip {k:Nat} {rows:List (List Rat)} {gG:List Nat} (h:EY eZ k rows gG) (hp:gG.length<rows.length) (hz:∀j,gG.length<=j->j<rows.length->iN rows j k=0):EY eZ (k+1) rows gG
 |EM {k i:Nat} {rows rows':List (List Rat)} {gG:List Nat} (h:EY eZ k rows gG) (hi:gG.length<=i) (hl:i<rows.length) (hn:iN rows i k≠0) (hz:∀j,gG.length<=j->j<i->iN rows j k=0) (hs:rows'=if i≠gG.length then AP rows i gG.length else rows):EY eZ (k+1) (eU (fV rows' gG.length k) gG.length k rows.length) (gG++[k])
def HS(H:Hp)(a b:cz):Hp:=(H.set 2 a).set 3 b
section
variable{H:Hp}(h:4<=H.length){a b x:cz}{vs:List AV}{o:Nat}
theorem wE:(HS H a b).length=H.length:=by unfold HS;simp
theorem adg(h2:H[2]?=some a)(h3:H[3]?=some b):HS H a b=H:=by obtain⟨l2,e2⟩:=aKS.1 h2;obtain⟨l3,e3⟩:=aKS.1 h3;unfold HS;rw[<-e2,aT2,<-e3,aT2]
include h
theorem XT:(HS H a b)[2]?=some a:=by unfold HS;rw[aNh (by omega),aNl (by omega)]
theorem ajw:(HS H a b)[3]?=some b:=by
 unfold HS;rw[aNl (by rw[aO8];omega)]
theorem Vo{j:Nat}(h2:j≠2)(h3:j≠3):(HS H a b)[j]?=H[j]?:=by unfold HS;rw[aNh (by omega),aNh (by omega)]
theorem XL:eE (HS H a b) 2 x=HS H x b:=by rw[kD (by rw[wE];omega)];unfold HS;rw[List.set_comm _ _ (by omega),List.set_set]
theorem aeN:eE (HS H a b) 3 x=HS H a x:=by rw[kD (by rw[wE];omega)];unfold HS;rw[List.set_set]
theorem AJ(ho:o<vs.length):cellAt (HS H (.cells .live vs) b) 2 o=some (vs.getD o aZ):=by rw[iX,XT h];simp[aL5 ho]
theorem KK{n m n' m'}:lZ 4 (HS H a (.cells .live [.bool n,m,.bool n',m'])) 3 0=some (.agg [.bool n,m,.bool n',m']):=by rw[lW,ajw h];rfl
theorem JB{v:AV}(ho:o<vs.length)(hv:df v=true):mK 1 [v] (HS H (.cells .live vs) b) 2 o=some (.cells .live (vs.set o v)):=by
 rw[kH,XT h];simp[hv];refine⟨by omega,?_⟩;rw[gb,aTW,if_pos ho]
 simp
theorem Qw{n m n' m' k l k' l'}(h1:df l=true)(h2:df l'=true):mK 4 [.bool k,l,.bool k',l'] (HS H a (.cells .live [.bool n,m,.bool n',m'])) 3 0=some (.cells .live [.bool k,l,.bool k',l']):=by rw[kH,ajw h];simp[oK,h1,h2,cH]
theorem ar0{s n:Nat}{v:AV}{cs:List AV}(hv:wW s 4 v H n cs):wW s 4 v (HS H a b) n cs:=by
 rcases hv with hv|⟨h0,c,h1,h2,h3,h4⟩
 ·exact .inl hv
 ·exact .inr ⟨h0,c,h1,by rw[wE];exact h2,h3,by rw[Vo h (by omega) (by omega)];exact h4⟩
end
theorem ack{s low n:Nat}{v:AV}{H:Hp}{cs:List AV}(h:wW s low v H n cs):k9 v=some (n:Int):=by
 rcases h with⟨rfl,_,rfl⟩|⟨_,b,_,_,rfl,_⟩<;>rfl
theorem qy(q:Rat):(yX q.num==0)=decide (q=0):=by
 by_cases h:q=0
 ·subst h;rfl
 ·have:q.num≠0:=fun e=>h (Rat.num_eq_zero.1 e)
  rw[cg h];unfold yX;rw[if_neg this]
  split<;>rfl
theorem uD(q:Rat):(yX q.num !=0)=!decide (q=0):=by rw[bne,qy]
theorem oq.at{vs:List AV}{rows:List (List Rat)}{w i k:Nat}(h:oq vs rows w)(hi:i<rows.length)(hk:k<w):∃cs n m n' m',vs.getD i aZ=.aK cs w/\je cs (row rows i)/\fD true 4 cs (k*4)=some (.agg [.bool n,m,.bool n',m'])/\dA (.agg [.bool n,m,.bool n',m']) (iN rows i k):=by obtain⟨⟨cs,e,rc⟩,hl⟩:=h.2 i hi;obtain⟨n,m,n',m',e2,r⟩:=rc.get (i:=k) (by omega);have p:=kb (cs:=cs) (o:=k*4) (by have:=rc.len;omega);rw[e2]at p;rw[hl]at e;exact⟨cs,n,m,n',m',e,rc,p,r⟩
theorem K7{H:Hp}{b m s:Nat}{y z x' y' z':AV}{bx TZ bz:List Nat}(hx:fz H 39 (.aI b 0 m s m)=some (x',bx))(hy:fz H 39 y=some (y',TZ))(hz:fz H 39 z=some (z',bz)):ow false H [.tuple [.aI b 0 m s m,y,z]]=some ([.tuple [x',y',z']],bx++(TZ++bz)):=by
 rw[nQ];have h4:fz H 40 (.tuple [.aI b 0 m s m,y,z])=some (.tuple [x',y',z'],bx++(TZ++bz)):=by unfold fz;simp only;unfold dP;rw[hx];unfold dP;rw[hy];unfold dP;rw[hz];unfold dP;simp only[aLT,aLJ,aMi,aMk,aRu,List.append_nil]
 unfold bW;rw[show bE [AV.tuple [.aI b 0 m s m,y,z]]=false by simp[bE,aU]];simp only[aKT,if_false];unfold dP;rw[h4];unfold dP
 simp
theorem oq.flat{vs:List AV}{rows:List (List Rat)}{w:Nat}(h:oq vs rows w):∀v∈vs,Flat v:=by
 intro v hv;obtain⟨i,hi,e⟩:=aTU hv;obtain⟨⟨cs,e2,-⟩,-⟩:=h.2 i (by rw[<-h.1];exact hi);rw[aQP,aL5 hi,aMp,e]at e2;rw[e2];exact fun _ _=>rfl
structure ahu(eZ:List (List Rat))(w K:Nat)(r:AV):Prop where
 ex:∃o p d k rows gG vs,r=.tuple [o,p,d]/\EY eZ k rows gG/\k<=w/\(k=w∨gG.length=rows.length)/\rows.length=eZ.length/\oq vs rows w/\rH (5^w*K) rows/\o=.aK vs eZ.length/\gG.length<=rows.length/\((gG=[]/\p=.aH)∨p=.aK (gG.map fun k:Nat=>.int .i64 (k:Int)) gG.length)/\∃q,dA d q
theorem Hu{vs0:List AV}{eZ:List (List Rat)}{w K:Nat}(RC:oq vs0 eZ w)(qM:rH K eZ)(hK:0<K)(hw:0<w)(hR:0<eZ.length)(hR2:eZ.length<=256)(Cf:w<=96)(zg:5^w*K<=10000000000):
  ∃r,aP E 170 [.aK vs0 eZ.length,.int .i64 (w:Int)]=some r/\ahu eZ w K r:=by
 obtain⟨o,ho,io⟩:=kF (E:=E) (n:=1) (by omega) (by omega);obtain⟨on0,om0,on1,om1,_,_,rfl,-,-,-,-⟩:=bX io;have OM:=aW _ io;have hvl:=RC.1;have asO:vs0.all df=true:=by
  refine List.all_eq_true.2 fun v hv=>?_
  obtain⟨i,hi,e⟩:=aTU hv;obtain⟨⟨cs,e2,-⟩,-⟩:=RC.2 i (by omega);rw[aQP,aL5 hi,aMp,e]at e2;rw[e2];rfl
 have iD:=Lr (E:=E) (H:=[.cells .live [.bool false,.aH,.bool false,.aH]]) (cs:=vs0) (n:=eZ.length) (by omega) asO hR (by omega);simp only[aMm,aO9,aLM,ah,List.cons_append,List.nil_append]at iD;obtain⟨R,hRe⟩:∃R,R=eZ.length:=⟨_,rfl⟩;rw[<-hRe]at iD⊢;refine tp aqi ?_;intro ts hl g0 g1;have T:=jb C.toOver;unfold amR;simp only[↓aN,aO,↓aQ,aJ,↓reduceIte,aa,ah,ae,Tryz.f170,hl,g0,iD,ho,OM];refine ft (fun k_ ts H=>∃k rows gG vs pv H0 Az Bu AL Al det,k_=w-k/\ts.length=142/\gt ts 1=.int .i64 (w:Int)/\gt ts 6=.b9 0 0/\gt ts 7=.aI 2 0 R 1 R/\gt ts 8=pv/\gt ts 9=.b9 3 0/\gt ts 10=.int .i64 (k:Int)/\H=HS H0 (.cells .live vs) (.cells .live [.bool Az,Bu,.bool AL,Al])/\(k<=w)/\(EY eZ k rows gG)/\(rows.length=R)/\(gG.length<=R)/\(oq vs rows w)/\(rH (5^k*K) rows)/\(dA (.agg [.bool Az,Bu,.bool AL,Al]) det)/\(Bq (5^k*K) det)/\(4<=H0.length)/\(H0[0]?=some (.cells .live [.bool false,.aH,.bool false,.aH]))/\(wW 1 4 pv H0 gG.length (gG.map fun k:Nat=>.int .i64 (k:Int)))) (w) ?_ ?_
 rotate_left
 ·refine⟨0,eZ,[],vs0,.aH,[.cells .live [.bool false,.aH,.bool false,.aH],.cells .dead [],.cells .live vs0,.cells .live [.bool on0,om0,.bool on1,om1]],on0,om0,on1,om1,(1:Rat),(by first|omega|rfl|(simp;done)),(by simp only[cP,hl]),?_⟩;simp only[cR,hl,aa,ae,g1]
  iterate 7 refine⟨by first|trivial|rfl|(congr 1;omega)|(simp;done)|(simp;omega),?_⟩
  refine⟨?_,?_,?_,?_,?_,?_,?_,?_,?_,?_,?_⟩
  ·omega
  ·exact .start
  ·exact hRe.symm
  ·simp
  ·exact RC
  ·simpa using qM
  ·exact io
  ·refine Bq.mono (k:=1) ⟨by decide,by decide⟩ ?_;rw[Nat.pow_zero,Nat.one_mul];exact hK
  ·simp
  ·rfl
  ·exact .inl ⟨rfl,rfl,rfl⟩
 clear hl g0 g1 ts;rintro k_ ts H ⟨k,rows,gG,vs,pv,H0,Az,Bu,AL,Al,det,rfl,hl,g1,g6,g7,g8,g9,g10,rfl,hk,Nn,hlen,tE,hm,hb,N9,DK,h4,nM,sT⟩;refine VS ?_;have hB:5^k*K<=10000000000:=aNm (aLL _ (aQT (by omega) hk)) zg;have hB0:0<5^k*K:=Nat.mul_pos (Nat.pow_pos (by omega)) hK;have ae1:5^k*K<=5^(k+1)*K:=aLL _ (aQT (by omega) (by omega));have ahY:5^(k+1)*K=5*(5^k*K):=by rw[Nat.pow_succ,Nat.mul_comm (5^k) 5,Nat.mul_assoc]
 have hpv:=ack sT;have DM:=aW _ N9;by_cases hkw:k<w
 rotate_left
 ·have dk:decide ((k:Int)<(w:Int))=false:=cg (by omega);have acn:vs.length=R:=by rw[hm.1,hlen]
  have UH:mK 4 [.bool Az,Bu,.bool AL,Al] (HS H0 (.cells .live vs) (.cells .live [.bool Az,Bu,.bool AL,Al])) 0 0=some (.cells .live [.bool Az,Bu,.bool AL,Al]):=by rw[kH,Vo h4 (by omega) (by omega),nM];simp[oK,DM.2.1,DM.2.2.2,cH]
  obtain⟨HX,hHX⟩:∃HX,eE (HS H0 (.cells .live vs) (.cells .live [.bool Az,Bu,.bool AL,Al])) 0 (.cells .live [.bool Az,Bu,.bool AL,Al])=HX:=⟨_,rfl⟩;have hX:=hHX;rw[kD (by rw[wE];omega)]at hX;have hX0:HX[0]?=some (.cells .live [.bool Az,Bu,.bool AL,Al]):=by rw[<-hX,aNl (by rw[wE];omega)]
  have hX2:HX[2]?=some (.cells .live vs):=by rw[<-hX,aNh (by omega),XT h4]
  have hag:lZ 4 HX 0 0=some (.agg [.bool Az,Bu,.bool AL,Al]):=by rw[lW,hX0];rfl
  have lM:=oe (n:=38) (off:=0) (len:=R) (esz:=1) (k:=R) hX2 (by decide) (by omega) (by rw[aPp,aPV,<-acn,aQV];exact gf hm.flat);rw[iP,eo]at lM;have hf3:=flat_agg (H:=HX) (n:=37) (qX N9);obtain⟨p,bp,n9,Ov⟩:∃p bp,fz HX 39 pv=some (p,bp)/\((gG=[]/\p=.aH)∨p=.aK (gG.map fun k:Nat=>.int .i64 (k:Int)) gG.length):=by
   rcases sT with⟨e1,_,e3⟩|⟨h0,c,h1,h2,e3,h5⟩
   ·subst e3;exact⟨_,_,rfl,.inl ⟨aTY e1,rfl⟩⟩
   ·have h6:HX[c]?=some (.cells .live (gG.map fun k:Nat=>.int .i64 (k:Int))):=by rw[<-hX,aNh (by omega),Vo h4 (by omega) (by omega)];exact h5
    have hf:=oe (n:=38) (off:=0) (len:=gG.length) (esz:=1) (k:=gG.length) h6 (by decide) (by simp) (by rw[aPp,aPV,aPc (by simp)];exact gf (by
     intro v hv;obtain⟨q,_,rfl⟩:=aMg.1 hv;exact fun _ _=>rfl))
    rw[iP,eo]at hf;rw[e3];exact⟨_,_,hf,.inr rfl⟩
  have gg:=K7 lM n9 hf3;simp only[↓aN,aO,aJ,↓reduceIte,aa,ah,ae,hl,g1,g6,g7,g8,g9,g10,dk,KK h4,UH,hHX,hag,gg,DM];exact⟨_,p,_,k,rows,gG,vs,rfl,Nn,hk,.inl (by omega),by rw[hlen,hRe],hm,fun j hj q hq=>(hb j hj q hq).mono (aLL _ (aQT (by omega) hk)),by rw[<-hRe],by rw[hlen];exact tE,Ov,_,N9⟩
 have dk:decide ((k:Int)<(w:Int))=true:=b8 (by omega);by_cases hpR:gG.length<R
 rotate_left
 ·have dp:decide ((gG.length:Int)<(R:Int))=false:=cg (by omega);have acn:vs.length=R:=by rw[hm.1,hlen]
  have UH:mK 4 [.bool Az,Bu,.bool AL,Al] (HS H0 (.cells .live vs) (.cells .live [.bool Az,Bu,.bool AL,Al])) 0 0=some (.cells .live [.bool Az,Bu,.bool AL,Al]):=by rw[kH,Vo h4 (by omega) (by omega),nM];simp[oK,DM.2.1,DM.2.2.2,cH]
  obtain⟨HX,hHX⟩:∃HX,eE (HS H0 (.cells .live vs) (.cells .live [.bool Az,Bu,.bool AL,Al])) 0 (.cells .live [.bool Az,Bu,.bool AL,Al])=HX:=⟨_,rfl⟩;have hX:=hHX;rw[kD (by rw[wE];omega)]at hX;have hX0:HX[0]?=some (.cells .live [.bool Az,Bu,.bool AL,Al]):=by rw[<-hX,aNl (by rw[wE];omega)]
  have hX2:HX[2]?=some (.cells .live vs):=by rw[<-hX,aNh (by omega),XT h4]
  have hag:lZ 4 HX 0 0=some (.agg [.bool Az,Bu,.bool AL,Al]):=by rw[lW,hX0];rfl
  have lM:=oe (n:=38) (off:=0) (len:=R) (esz:=1) (k:=R) hX2 (by decide) (by omega) (by rw[aPp,aPV,<-acn,aQV];exact gf hm.flat);rw[iP,eo]at lM;have hf3:=flat_agg (H:=HX) (n:=37) (qX N9);obtain⟨p,bp,n9,Ov⟩:∃p bp,fz HX 39 pv=some (p,bp)/\((gG=[]/\p=.aH)∨p=.aK (gG.map fun k:Nat=>.int .i64 (k:Int)) gG.length):=by
   rcases sT with⟨e1,_,e3⟩|⟨h0,c,h1,h2,e3,h5⟩
   ·subst e3;exact⟨_,_,rfl,.inl ⟨aTY e1,rfl⟩⟩
   ·have h6:HX[c]?=some (.cells .live (gG.map fun k:Nat=>.int .i64 (k:Int))):=by rw[<-hX,aNh (by omega),Vo h4 (by omega) (by omega)];exact h5
    have hf:=oe (n:=38) (off:=0) (len:=gG.length) (esz:=1) (k:=gG.length) h6 (by decide) (by simp) (by rw[aPp,aPV,aPc (by simp)];exact gf (by
     intro v hv;obtain⟨q,_,rfl⟩:=aMg.1 hv;exact fun _ _=>rfl))
    rw[iP,eo]at hf;rw[e3];exact⟨_,_,hf,.inr rfl⟩
  have gg:=K7 lM n9 hf3;simp only[↓aN,aO,aJ,↓reduceIte,aa,ah,ae,hl,g1,g6,g7,g8,g9,g10,dk,dp,hpv,KK h4,UH,hHX,hag,gg,DM];exact⟨_,p,_,k,rows,gG,vs,rfl,Nn,hk,.inr (by omega),by rw[hlen,hRe],hm,fun j hj q hq=>(hb j hj q hq).mono (aLL _ (aQT (by omega) hk)),by rw[<-hRe],by rw[hlen];exact tE,Ov,_,N9⟩
 have dp:decide ((gG.length:Int)<(R:Int))=true:=b8 (by omega);simp only[↓aN,aO,aJ,aa,ae,hl,g1,g7,g8,g10,dk,dp,hpv];refine ft (fun k_ ts H=>∃i,k_=R-i/\ts.length=142/\gt ts 1=.int .i64 (w:Int)/\gt ts 6=.b9 0 0/\gt ts 7=.aI 2 0 R 1 R/\gt ts 8=pv/\gt ts 9=.b9 3 0/\gt ts 10=.int .i64 (k:Int)/\gt ts 11=.int .i64 (gG.length:Int)/\gt ts 12=.int .i64 (i:Int)/\H=HS H0 (.cells .live vs) (.cells .live [.bool Az,Bu,.bool AL,Al])/\(gG.length<=i)/\(i<=R)/\(∀j,gG.length<=j->j<i->iN rows j k=0)) (R-gG.length) ?_ ?_
 rotate_left
 ·refine⟨gG.length,(by first|omega|rfl|(simp;done)),(by simp only[cP,hl]),?_⟩;simp only[cR,hl,aa,ae,g1,g6,g7,g8,g9,g10]
  iterate 9 refine⟨by first|trivial|rfl|(congr 1;omega)|(simp;done)|(simp;omega),?_⟩
  refine⟨?_,?_,?_⟩
  ·omega
  ·omega
  ·intro j h1 h2;omega
 clear hl g1 g6 g7 g8 g9 g10 ts;rintro k_ ts H ⟨i,rfl,hl,g1,g6,g7,g8,g9,g10,g11,g12,rfl,hi,hiR,hz⟩;refine VS ?_;have acn:vs.length=R:=by rw[hm.1,hlen]
 by_cases hiL:i<R
 rotate_left
 ·have di:decide ((i:Int)<(R:Int))=false:=cg (by omega);obtain rfl:i=R:=by omega
  have die:((i:Int)==(i:Int))=true:=beq_self_eq_true _;have w1:aX .i64 ((k:Int)+1)=((k+1:Nat):Int):=by rw[wrap_i64 (by omega) (by omega)];omega
  simp only[↓aN,aO,aJ,↓reduceIte,aa,ae,hl,g7,g10,g12,di,w1];refine dG ?_;refine⟨_,?_,k+1,rows,gG,vs,pv,H0,Az,Bu,AL,Al,det,rfl,(by simp only[cP,hl]),?_⟩
  ·first|omega|(simp;omega)
  simp only[cR,hl,aa,ae,g1,g6,g7,g8,g9]
  iterate 7 refine⟨by first|trivial|rfl|(congr 1;omega)|(simp;done)|(simp;omega),?_⟩
  refine⟨?_,?_,?_,?_,?_,?_,?_,?_,?_,?_,?_⟩
  ·omega
  ·exact .skip Nn (by omega) (fun j h1 h2=>hz j h1 (by omega))
  ·exact hlen
  ·exact tE
  ·exact hm
  ·exact fun j hj q hq=>(hb j hj q hq).mono ae1
  ·exact N9
  ·exact DK.mono ae1
  ·exact h4
  ·exact nM
  ·exact sT
 have di:decide ((i:Int)<(R:Int))=true:=b8 (by omega);have di':((i:Int)<(R:Int))=True:=eq_true (by omega);have dk':((k:Int)<(w:Int))=True:=eq_true (by omega);obtain⟨ci,n1,m1,n2,m2,evi,rci,pi1,ri⟩:=hm.at (i:=i) (k:=k) (by omega) hkw;have li:=AJ h4 (b:=.cells .live [.bool Az,Bu,.bool AL,Al]) (vs:=vs) (o:=i) (by omega);rw[evi]at li;have MI:=aW _ ri;have mE:=gz (E:=E) ri;have sH:=qy (iN rows i k);by_cases hzi:iN rows i k=0
 ·rw[b8 hzi]at sH;have w1:aX .i64 ((i:Int)+1)=((i+1:Nat):Int):=by rw[wrap_i64 (by omega) (by omega)];omega
  simp only[↓aN,aO,↓aQ,aJ,↓reduceIte,aa,ae,hl,g7,g10,g12,di',dk',li,pi1,MI,mE,sH,w1];refine dG ?_;refine⟨_,?_,i+1,rfl,(by simp only[cP,hl]),?_⟩
  ·first|omega|(simp;omega)
  simp only[cR,hl,aa,ae,g1,g6,g7,g8,g9,g10,g11]
  iterate 9 refine⟨by first|trivial|rfl|(congr 1;omega)|(simp;done)|(simp;omega),?_⟩
  refine⟨?_,?_,?_⟩
  ·omega
  ·omega
  ·intro j h1 h2;by_cases e:j=i
   ·rw[e];exact hzi
   ·exact hz j h1 (by omega)
 rw[cg hzi]at sH;have aoG:((i:Int)==(R:Int))=false:=by rw[beq_eq_false_iff_ne];omega
 obtain⟨r,qh⟩:∃r,r=gG.length:=⟨_,rfl⟩;rw[<-qh]at hpR hi hz g11 dp;have dr':((r:Int)<(R:Int))=True:=eq_true (by omega);have hpe:iN rows i k≠0:=hzi;have bpe:Bq (5^k*K) (iN rows i k):=(hb i (by omega)).get (by rw[(hm.2 i (by omega)).2];exact hkw);generalize aoQ:iN rows i k=e at*;obtain⟨ng,hng,ing⟩:=tW (E:=E) N9;obtain⟨J8,Km,Kz,JK,_,_,rfl,-,-,-,-⟩:=bX ing;have AM:=aW _ ing;obtain⟨jo,ji,jr,jh,abt,amT,aqt,amr,avR⟩:∃jo ji jr jh abt,(i=r->aP E 67 [.agg [.bool Az,Bu,.bool AL,Al],.agg [.bool n1,m1,.bool n2,m2]]=some (.agg [.bool jo,ji,.bool jr,jh]))/\(i≠r->aP E 67 [.agg [.bool J8,Km,.bool Kz,JK],.agg [.bool n1,m1,.bool n2,m2]]=some (.agg [.bool jo,ji,.bool jr,jh]))/\dA (.agg [.bool jo,ji,.bool jr,jh]) abt/\Bq (5^(k+1)*K) abt:=by
  by_cases Ev:i=r
  ·obtain⟨x,hx,ix⟩:=gQ (E:=E) N9 ri DK bpe (by omega);obtain⟨jo,ji,jr,jh,_,_,rfl,-,-,-,-⟩:=bX ix;exact⟨_,_,_,_,_,fun _=>hx,fun h=>absurd Ev h,ix,(DK.mul bpe).mono (by omega)⟩
  ·obtain⟨x,hx,ix⟩:=gQ (E:=E) ing ri DK.neg bpe (by omega);obtain⟨jo,ji,jr,jh,_,_,rfl,-,-,-,-⟩:=bX ix;exact⟨_,_,_,_,_,fun h=>absurd h Ev,fun _=>hx,ix,(DK.neg.mul bpe).mono (by omega)⟩
 have XM:=aW _ amr;obtain⟨cr,_,_,_,_,evr,rcr,-,-⟩:=hm.at (i:=r) (k:=k) (by omega) hkw;have lr:=AJ h4 (b:=.cells .live [.bool Az,Bu,.bool AL,Al]) (vs:=vs) (o:=r) (by omega);rw[evr]at lr;obtain⟨Hh,aif,akz⟩:∃Hh,(i=r->Hh=vs)/\(i≠r->Hh=(vs.set i (.aK cr w)).set r (.aK ci w)):=by
  by_cases Ev:i=r
  ·exact⟨vs,fun _=>rfl,fun h=>absurd Ev h⟩
  ·exact⟨_,fun h=>absurd h Ev,fun _=>rfl⟩
 obtain⟨rows',hrw⟩:∃rows',rows'=if i≠r then AP rows i r else rows:=⟨_,rfl⟩
 have V4:rows'.length=R:=by
  rw[hrw]
  split
  ·unfold AP;rw[aO8,aO8];exact hlen
  ·exact hlen
 have kM:oq Hh rows' w:=by
  rw[hrw];by_cases Ev:i=r
  ·rw[if_neg (by simpa using Ev),aif Ev];exact hm
  ·rw[if_pos Ev,akz Ev]
   have:=hm.swap (i:=i) (r:=r) (by omega) (by omega)
   rw[evi,evr]at this;exact this
 have OI:rH (5^k*K) rows':=by
  rw[hrw]
  split
  ·exact(hb.set (by omega) (hb r (by omega))).set (by rw[aO8];omega) (hb i (by omega))
  ·exact hb
 have D0:row rows' r=row rows i:=by
  rw[hrw];by_cases Ev:i=r
  ·rw[if_neg (by simpa using Ev),Ev]
  ·rw[if_pos Ev];unfold AP;rw[oW (by rw[aO8];omega),if_pos rfl]
 have Gn:Hh.getD r aZ=.aK ci w:=by
  by_cases Ev:i=r
  ·rw[aif Ev,<-Ev];exact evi
  ·rw[akz Ev,I4 (by rw[aO8];omega),if_pos rfl]
 have aCb:Hh.length=R:=by rw[kM.1,V4]
 have hRr:iY (.aK ci w) (row rows i):=by
  have:=(hm.2 i (by omega)).1
  rwa[evi]at this
 have hwl:(row rows i).length=w:=(hm.2 i (by omega)).2;obtain⟨ov,mP,iov⟩:=UY (E:=E) hRr ri (hb i (by omega)) bpe (by omega) (by omega) hpe;have hzl:(aSR (fun x _=>x/e) (row rows i) (row rows i)).length=w:=by rw[aSY,hwl,aT0]
 obtain⟨co,vB,rco⟩:=id iov;rw[hzl]at vB;subst vB;have SD:fV rows' r k=rows'.set r (aSR (fun x _=>x/e) (row rows i) (row rows i)):=by
  unfold fV iN;rw[D0]
  have:(row rows i).getD k 0=e:=aoQ
  rw[this]
 have hmn:oq (Hh.set r (.aK co w)) (fV rows' r k) w:=by rw[SD];exact kM.set (by omega) iov hzl
 have lv:∀b,cellAt (HS H0 (.cells .live Hh) b) 2 r=some (.aK ci w):=fun b=>by
  have:=AJ h4 (b:=b) (vs:=Hh) (o:=r) (by omega)
  rwa[Gn]at this
 have stc:∀b,mK 1 [.aK co w] (HS H0 (.cells .live Hh) b) 2 r=some (.cells .live (Hh.set r (.aK co w))):=fun b=>JB h4 (by omega) rfl
 have hnr:row (fV rows' r k) r=aSR (fun x _=>x/e) (row rows i) (row rows i):=by rw[SD,oW (by omega),if_pos rfl]
 have azL:BL (2*(5^k*K)) (row (fV rows' r k) r):=by rw[hnr];intro q hq;obtain⟨m,s8,vN⟩:=aTU hq;rw[aT3]at vN;rw[<-vN];exact((hb i (by omega) _ (aMn _)).div bpe hpe).mono (by omega)
 have avx:∀m,m<R->m≠r->BL (5^k*K) (row (fV rows' r k) m):=by intro m h1 h2;rw[SD,oW (by omega),if_neg (fun h=>h2 h.symm)];exact OI m (by omega)
 have n8:(fV rows' r k).length=R:=by rw[SD,aO8];exact V4
 have bsI:∀aL,aT E aL 91 1 [(0,.int .i64 (k:Int))]=some (.aI aL 0 1 1 1,[(aL,.cells .live [.int .i64 (k:Int)])]):=fun aL=>ee Uf rfl (by decide) (by decide) rfl
 have Ka:∀l n,AV.cells (.aK l n)=[.aK l n]:=fun _ _=>rfl
 by_cases Ev:i=r
 case' pos=>
  have dY:((i:Int)!=(r:Int))=false:=by rw[Ev];simp
  have hmul:=amT Ev;rw[<-aif Ev]at li⊢;simp only[↓aN,aO,↓aQ,aJ,↓reduceIte,aa,ah,ae,hl,g7,g9,g10,g11,g12,di',dk',dr',li,pi1,MI,mE,sH,aoG,dY,lv,stc,Ka,KK h4,XL h4,aeN h4,Qw h4 XM.2.1 XM.2.2.2,hmul,DM,mP]
 case' neg=>
  have dY:((i:Int)!=(r:Int))=true:=by rw[bne_iff_ne];omega
  have hmul:=aqt Ev;have sta:∀b,mK 1 [.aK cr w] (HS H0 (.cells .live vs) b) 2 i=some (.cells .live (vs.set i (.aK cr w))):=fun b=>JB h4 (by omega) rfl
  have stb:∀b,mK 1 [.aK ci w] (HS H0 (.cells .live (vs.set i (.aK cr w))) b) 2 r=some (.cells .live ((vs.set i (.aK cr w)).set r (.aK ci w))):=fun b=>JB h4 (by rw[aO8];omega) rfl
  simp only[↓aN,aO,↓aQ,aJ,↓reduceIte,aa,ah,ae,hl,g7,g9,g10,g11,g12,di',dk',dr',li,lr,sta,stb,(akz Ev).symm,pi1,MI,mE,sH,aoG,dY,lv,stc,Ka,KK h4,XL h4,aeN h4,Qw h4 XM.2.1 XM.2.2.2,Qw h4 AM.2.1 AM.2.2.2,hng,hmul,DM,AM,mP]
 all_goals
  refine ft (fun k_ ts H=>∃j Sb,k_=R-j/\ts.length=142/\gt ts 1=.int .i64 (w:Int)/\gt ts 6=.b9 0 0/\gt ts 7=.aI 2 0 R 1 R/\gt ts 8=pv/\gt ts 9=.b9 3 0/\gt ts 10=.int .i64 (k:Int)/\gt ts 11=.int .i64 (r:Int)/\gt ts 97=.int .i64 (R:Int)/\gt ts 98=.int .i64 (j:Int)/\H=HS H0 (.cells .live Sb) (.cells .live [.bool jo,ji,.bool jr,jh])/\(j<=R)/\(oq Sb (eU (fV rows' r k) r k j) w)/\(BL (2*(5^k*K)) (row (eU (fV rows' r k) r k j) r))/\(∀m,m<R->m<j->BL (5*(5^k*K)) (row (eU (fV rows' r k) r k j) m))/\(∀m,m<R->j<=m->m≠r->BL (5^k*K) (row (eU (fV rows' r k) r k j) m))) (R) ?_ ?_
  rotate_left
  ·refine⟨0,Hh.set r (.aK co w),(by first|omega|rfl|(simp;done)),(by simp only[cP,hl]),?_⟩;simp only[cR,hl,aa,ae,g1,g6,g7,g8,g9,g10,g11]
   iterate 10 refine⟨by first|trivial|rfl|(congr 1;omega)|(simp;done)|(simp;omega),?_⟩
   refine⟨?_,?_,?_,?_,?_⟩
   ·omega
   ·exact hmn
   ·exact azL
   ·intro m h1 h2;omega
   ·intro m h1 h2 h3;exact avx m h1 h3
  clear hl g1 g6 g7 g8 g9 g10 g11 g12 ts;rintro k_ ts H ⟨j,Sb,rfl,hl,g1,g6,g7,g8,g9,g10,g11,g97,g98,rfl,hjR,XC,hbr,D8,IL⟩;refine VS ?_;have hlj:(eU (fV rows' r k) r k j).length=R:=by rw[qL,n8]
  have hvj:Sb.length=R:=by rw[XC.1,hlj]
  by_cases hjL:j<R
  ·have dj:decide ((j:Int)<(R:Int))=true:=b8 (by omega);have dj':((j:Int)<(R:Int))=True:=eq_true (by omega);have w1:aX .i64 ((j:Int)+1)=((j+1:Nat):Int):=by rw[wrap_i64 (by omega) (by omega)];omega
   by_cases UB:j=r
   ·have hjn:((j:Int)!=(r:Int))=false:=by rw[UB];simp
    have sQ:eU (fV rows' r k) r k (j+1)=eU (fV rows' r k) r k j:=by rw[eU,if_neg (fun h=>h.1 UB)]
    simp only[↓aN,aO,aa,ae,hl,g11,g97,g98,dj',hjn,w1];refine dG ?_;refine⟨_,?_,j+1,Sb,rfl,(by simp only[cP,hl]),?_⟩
    ·first|omega|(simp;omega)
    simp only[cR,hl,aa,ae,g1,g6,g7,g8,g9,g10,g11,g97]
    iterate 10 refine⟨by first|trivial|rfl|(congr 1;omega)|(simp;done)|(simp;omega),?_⟩
    refine⟨?_,?_,?_,?_,?_⟩
    ·omega
    ·rw[sQ];exact XC
    ·rw[sQ];exact hbr
    ·rw[sQ];intro m h1 h2;by_cases e1:m=r
     ·rw[e1];exact fun q hq=>(hbr q hq).mono (by omega)
     ·exact D8 m h1 (by omega)
    ·rw[sQ];intro m h1 h2 h3;exact IL m h1 (by omega) h3
   ·have hjn:((j:Int)!=(r:Int))=true:=by rw[bne_iff_ne];omega
    obtain⟨cj,jn1,jm1,jn2,jm2,evj,rcj,pj,rj⟩:=XC.at (i:=j) (k:=k) (by omega) hkw;obtain⟨cq,_,_,_,_,evq,rcq,-,-⟩:=XC.at (i:=r) (k:=k) (by omega) hkw;have lj:=fun b=>AJ h4 (b:=b) (vs:=Sb) (o:=j) (by omega)
    have lq:=fun b=>AJ h4 (b:=b) (vs:=Sb) (o:=r) (by omega)
    rw[evj]at lj;rw[evq]at lq;have MJ:=aW _ rj;have asw:=gz (E:=E) rj;have abz:=uD (iN (eU (fV rows' r k) r k j) j k);have bj:=IL j hjL (Nat.le_refl _) UB;have hRj:iY (.aK cj w) (row (eU (fV rows' r k) r k j) j):=by
     have:=(XC.2 j (by omega)).1
     rwa[evj]at this
    have hRq:iY (.aK cq w) (row (eU (fV rows' r k) r k j) r):=by
     have:=(XC.2 r (by omega)).1
     rwa[evq]at this
    have hwj:(row (eU (fV rows' r k) r k j) j).length=w:=(XC.2 j (by omega)).2;have hwq:(row (eU (fV rows' r k) r k j) r).length=w:=(XC.2 r (by omega)).2;by_cases hej:iN (eU (fV rows' r k) r k j) j k=0
    ·rw[b8 hej]at abz;have sQ:eU (fV rows' r k) r k (j+1)=eU (fV rows' r k) r k j:=by rw[eU,if_neg (fun h=>h.2 hej)]
     simp only[↓aN,aO,↓aQ,aJ,↓reduceIte,aa,ae,hl,g7,g10,g11,g97,g98,dj',dk',hjn,w1,lj,pj,MJ,asw,abz];refine dG ?_;refine⟨_,?_,j+1,Sb,rfl,(by simp only[cP,hl]),?_⟩
     ·first|omega|(simp;omega)
     simp only[cR,hl,aa,ae,g1,g6,g7,g8,g9,g10,g11,g97]
     iterate 10 refine⟨by first|trivial|rfl|(congr 1;omega)|(simp;done)|(simp;omega),?_⟩
     refine⟨?_,?_,?_,?_,?_⟩
     ·omega
     ·rw[sQ];exact XC
     ·rw[sQ];exact hbr
     ·rw[sQ];intro m h1 h2;by_cases e1:m=j
      ·rw[e1];exact fun q hq=>(bj q hq).mono (by omega)
      ·exact D8 m h1 (by omega)
     ·rw[sQ];intro m h1 h2 h3;exact IL m h1 (by omega) h3
    ·rw[cg hej]at abz;have be:Bq (5^k*K) (iN (eU (fV rows' r k) r k j) j k):=bj.get (by omega);obtain⟨lv',Fy,ilv⟩:=UR (E:=E) (k:=2*(5^k*K)) hRj hRq rj (fun q hq=>(bj q hq).mono (by omega)) hbr be (by omega) (by omega) (by omega);have apK:(aSR (fun x y=>x-iN (eU (fV rows' r k) r k j) j k*y) (row (eU (fV rows' r k) r k j) j) (row (eU (fV rows' r k) r k j) r)).length=w:=by rw[aSY,hwj,hwq,aT0]
     obtain⟨cl,iD,rcl⟩:=id ilv;rw[apK]at iD;subst iD;have sQ:eU (fV rows' r k) r k (j+1)=(eU (fV rows' r k) r k j).set j (aSR (fun x y=>x-iN (eU (fV rows' r k) r k j) j k*y) (row (eU (fV rows' r k) r k j) j) (row (eU (fV rows' r k) r k j) r)):=by rw[eU,if_pos ⟨UB,hej⟩]
     have stj:∀b,mK 1 [.aK cl w] (HS H0 (.cells .live Sb) b) 2 j=some (.cells .live (Sb.set j (.aK cl w))):=fun b=>JB h4 (by omega) rfl
     simp only[↓aN,aO,↓aQ,aJ,↓reduceIte,aa,ah,ae,hl,g7,g10,g11,g97,g98,dj',dk',dr',hjn,w1,lj,lq,pj,MJ,asw,abz,Fy,stj,Ka,XL h4];refine dG ?_;refine⟨_,?_,j+1,Sb.set j (.aK cl w),rfl,(by simp only[cP,hl]),?_⟩
     ·first|omega|(simp;omega)
     simp only[cR,hl,aa,ae,g1,g6,g7,g8,g9,g10,g11,g97]
     iterate 10 refine⟨by first|trivial|rfl|(congr 1;omega)|(simp;done)|(simp;omega),?_⟩
     refine⟨?_,?_,?_,?_,?_⟩
     ·omega
     ·rw[sQ];exact XC.set (by omega) ilv apK
     ·rw[sQ,oW (by omega),if_neg UB];exact hbr
     ·rw[sQ];intro m h1 h2;rw[oW (by omega)];by_cases e1:j=m
      ·rw[if_pos e1];intro q hq;obtain⟨t,Aa,zy⟩:=aTU hq;rw[aT3]at zy;rw[<-zy];exact((bj _ (aMn _)).sub (be.mul (hbr _ (aMn _)))).mono (by omega)
      ·rw[if_neg e1];by_cases e2:m=r
       ·rw[e2];exact fun q hq=>(hbr q hq).mono (by omega)
       ·exact D8 m h1 (by omega)
     ·rw[sQ];intro m h1 h2 h3;rw[oW (by omega),if_neg (by omega)];exact IL m h1 (by omega) h3
  ·have dj:decide ((j:Int)<(R:Int))=false:=cg (by omega);obtain rfl:j=R:=by omega
   have w1:aX .i64 ((k:Int)+1)=((k+1:Nat):Int):=by rw[wrap_i64 (by omega) (by omega)];omega
   obtain⟨v',bU,iR,Di,zz,EI⟩:=K4 (E:=E) (H:=HS H0 (.cells .live Sb) (.cells .live [.bool jo,ji,.bool jr,jh])) (x:=[.int .i64 (k:Int)]) Uf (by decide) (ar0 h4 sT) (by simp) rfl rfl (by unfold gO;omega) (by omega) (by rw[wE];exact h4);simp only[↓aN,aO,↓reduceIte,aa,ae,hl,g8,g10,g97,g98,dj,w1,bsI,ep,iR];generalize cE.app _ (cE.bU bU)=H2 at Di zz EI⊢;have e2:H2=HS H2 (.cells .live Sb) (.cells .live [.bool jo,ji,.bool jr,jh]):=(adg (by rw[zz 2 (by omega),XT h4]) (by rw[zz 3 (by omega),ajw h4])).symm;refine dG ?_;refine⟨_,?_,k+1,eU (fV rows' r k) r k j,gG++[k],Sb,v',H2,jo,ji,jr,jh,abt,rfl,(by simp only[cP,hl]),?_⟩
   ·first|omega|(simp;omega)
   simp only[cR,hl,aa,ae,g1,g6,g7,g9]
   iterate 7 refine⟨by first|trivial|rfl|(congr 1;omega)|(simp;done)|(simp;omega),?_⟩
   refine⟨?_,?_,?_,?_,?_,?_,?_,?_,?_,?_,?_⟩
   ·omega
   ·have hp:=EY.EM (eZ:=eZ) (i:=i) (rows':=rows') Nn (by omega) (by omega) (by rw[aoQ];exact hpe) (fun m h1 h2=>hz m (by omega) h2) (by rw[hrw,qh]);rw[<-qh,hlen]at hp;exact hp
   ·exact hlj
   ·rw[aMf];simp;omega
   ·exact XC
   ·rw[ahY];intro m s8;exact D8 m (by omega) (by omega)
   ·exact amr
   ·exact avR
   ·exact EI
   ·rw[zz 0 (by omega),Vo h4 (by omega) (by omega)];exact nM
   ·simpa using Di
theorem fX{vs:List AV}{i:Nat}(h:i<vs.length):fD false 1 vs i=some (vs.getD i aZ):=by simp[fD,h,aQP]
theorem Tj{vs:List AV}{rows:List (List Rat)}{w:Nat}(hm:oq vs rows w)(hR:0<rows.length)(hR2:rows.length<=256)(Cf:w<=96):aP E 169 [.aK vs rows.length]=some (.int .i64 0):=by
 refine dX ?_;obtain⟨R,hRe⟩:∃R,R=rows.length:=⟨_,rfl⟩;rw[<-hRe]at hR hR2⊢;have hvl:vs.length=R:=by rw[hm.1,hRe]
 have dR:decide ((R:Int)>256)=false:=cg (by omega);refine nY apq ?_;intro ts hl g0;unfold aqF;simp only[↓aN,aO,aJ,aa,ae,Tryz.f169,hl,g0,dR];refine ft (fun k_ ts H=>∃i,k_=R-i/\ts.length=25/\gt ts 0=.aK vs R/\gt ts 8=.aK vs R/\gt ts 9=.int .i64 (R:Int)/\gt ts 10=.int .i64 (i:Int)/\H=[]/\(i<=R)) (R) ?_ ?_
 rotate_left
 ·refine⟨0,(by first|omega|rfl|(simp;done)),(by simp only[cP,hl]),?_⟩;simp only[cR,hl,aa,ae,g0]
  iterate 5 refine⟨by first|trivial|rfl|(congr 1;omega)|(simp;done)|(simp;omega),?_⟩
  ·omega
 clear hl g0 ts;rintro k_ ts H ⟨i,rfl,hl,g0,g8,g9,g10,rfl,hi⟩;refine VS ?_;by_cases hd:i<R
 ·have dc:decide ((i:Int)<(R:Int))=true:=b8 (by omega);have c1:((i:Int)<(R:Int))=True:=eq_true (by omega);have c0:((0:Int)<(R:Int))=True:=eq_true (by omega);have w1:aX .i64 ((i:Int)+1)=((i+1:Nat):Int):=by rw[wrap_i64 (by omega) (by omega)];omega
  obtain⟨⟨ci,e1,-⟩,h1⟩:=hm.2 i (by omega);obtain⟨⟨c0',e2,-⟩,h2⟩:=hm.2 0 (by omega);have p1:=fX (vs:=vs) (i:=i) (by omega);have p2:=fX (vs:=vs) (i:=0) (by omega);rw[e1,h1]at p1;rw[e2,h2]at p2;have dw:decide ((w:Int)>96)=false:=cg (by omega);have dww:((w:Int)!=(w:Int))=false:=by simp
  simp only[↓aN,aO,aJ,↓reduceIte,aa,ae,an,aq,hl,g0,g8,g9,g10,c1,c0,w1,p1,p2,dw,dww];refine dG ?_;refine⟨_,?_,i+1,rfl,(by simp only[cP,hl]),?_⟩
  ·first|omega|(simp;omega)
  simp only[cR,hl,aa,ae,g0,g8,g9]
  iterate 5 refine⟨by first|trivial|rfl|(congr 1;omega)|(simp;done)|(simp;omega),?_⟩
  ·omega
 ·have dc:decide ((i:Int)<(R:Int))=false:=cg (by omega);simp only[↓aN,aO,↓reduceIte,aa,hl,g9,g10,dc]
theorem KM{vs:List AV}{rows:List (List Rat)}{w:Nat}(hm:oq vs rows w)(hR:0<rows.length)(hR2:rows.length<=256):aP E 171 [.aK vs rows.length]=some (.int .i64 (w:Int)):=by
 refine dX ?_;have hvl:vs.length=rows.length:=hm.1;have c0:((0:Int)<(rows.length:Int))=True:=eq_true (by omega);have e0:((rows.length:Int)==0)=false:=by rw[beq_eq_false_iff_ne];omega
 obtain⟨⟨c0',e2,-⟩,h2⟩:=hm.2 0 (by omega);have p2:=fX (vs:=vs) (i:=0) (by omega);rw[e2,h2]at p2;refine nY alA ?_;intro ts hl g0;unfold aow;simp only[↓aN,aO,aJ,↓reduceIte,aa,ae,an,aq,Tryz.f171,hl,g0,c0,e0,p2]
theorem lQ{E:Env}{t s rR:Nat}{ag:Bool}{z x cs:List AV}{n:Nat}{v:AV}{H:Hp}(hS:eu E t=some (ag,s,rR,z))(hs:0<s)(h:wW s 0 v H n cs)(sd:cs.length=n*s)(hx:x.length=s)(hxo:x.all df=true)(hr:(n+1)*rR<=gO)(hn:n+1<=4611686018427387904):
  ∃bU H2,aV E (H++[cz.cells gu.live x]) (H++[cz.cells gu.live x]).length .append [t,t] [v,.aI H.length 0 1 s 1]=some (.aI (H.length+1) 0 (n+1) s (n+1),bU)/\(cE.bU bU).app (H++[cz.cells gu.live x])=H2/\H2[H.length+1]?=some (.cells .live (cs++x))/\H2.length=H.length+2/\(∀k,k<H.length->(∀m,v≠ .aI k 0 m s m)->H2[k]?=H[k]?):=by
 obtain⟨i,e,ei,h1,h2,h3,h4,h5,h6,h7⟩:=ij hS;obtain⟨cV,isAgg,size,bytes,zero,eS⟩:=i;simp only at h2;subst h2 h5 h6;have hlen:(H++[cz.cells gu.live x]).length=H.length+1:=by simp
 have uO:vD (H++[cz.cells gu.live x]) ei false (.aI H.length 0 1 ei.size 1)=some (1,x):=by
  have ht:List.take (1*ei.size) x=x:=by rw[Nat.one_mul,<-hx,aQV]
  simp[vD,qe,sV,kJ,hx];rw[<-hx];simp
 have hb:aV E (H++[cz.cells gu.live x]) (H++[cz.cells gu.live x]).length .append [t,t] [v,.aI H.length 0 1 ei.size 1]=fQ E (H++[cz.cells gu.live x]) (H++[cz.cells gu.live x]).length false t v (.aI H.length 0 1 ei.size 1):=by simp[aV,h1]
 rw[hb];unfold fQ;simp only[h1,h3,uO];rw[if_neg (by omega),if_neg (by rw[hxo,h7];simp;omega)];rcases h with⟨rfl,rfl,rfl⟩|⟨QH,b,vO,Ao,rfl,Lg⟩
 ·simp only;rw[if_pos ⟨by omega,by omega⟩,hlen];refine⟨_,_,rfl,rfl,?_,?_,?_⟩
  ·rw[cQ,<-hlen,ep,List.nil_append];simp
  ·rw[cQ,<-hlen,ep];simp
  ·intro k hk _;rw[cQ,<-hlen,ep,aRd,aNq (by omega)]
 ·have hgb:(H++[cz.cells gu.live x])[b]?=some (.cells .live cs):=by rw[aNq Ao];exact Lg
  simp only[hgb];rw[if_neg (by omega),if_pos ⟨trivial,by omega,by omega,by omega⟩,hlen];have hpd:eE (H++[cz.cells gu.live x]) b (.cells .dead [])=(H++[cz.cells gu.live x]).set b (.cells .dead []):=kD (by rw[hlen];omega);have tE:((H++[cz.cells gu.live x]).set b (.cells .dead [])).length=H.length+1:=by simp
  refine⟨_,_,rfl,rfl,?_,?_,?_⟩
  ·rw[kI,hpd,<-tE,ep,aPp,<-sd,aQV];simp
  ·rw[kI,hpd,<-tE,ep];simp
  ·intro k hk Lk;have hkb:b≠k:=by rintro rfl;exact Lk n rfl
   rw[kI,hpd,<-tE,ep,aNq (by simp;omega),aNh hkb,aNq (by omega)]
def Dw(H:Hp)(rows:List (List Rat))(w:Nat)(v:AV)(i:Nat):Prop:=(i=0/\v=.aH)∨(0<i/\∃b hs,v=.aI b 0 i 1 i/\b<H.length/\H[b]?=some (.cells .live hs)/\hs.length=i/\∀j,j<i->∃c cs,hs.getD j aZ=.aI c 0 w 4 w/\c≠b/\c<H.length/\H[c]?=some (.cells .live cs)/\je cs (row rows j))
theorem Dw.sl{H:Hp}{rows:List (List Rat)}{w i:Nat}{v:AV}(h:Dw H rows w v i):∃hs,wW 1 0 v H i hs/\hs.length=i:=by
 rcases h with⟨rfl,rfl⟩|⟨h0,b,hs,e,h1,h2,h3,-⟩
 ·exact⟨[],.inl ⟨rfl,rfl,rfl⟩,rfl⟩
 ·exact⟨hs,.inr ⟨h0,b,Nat.zero_le _,h1,e,h2⟩,h3⟩
theorem qz{s low n:Nat}{v:AV}{H l:Hp}{cs:List AV}(h:wW s low v H n cs):wW s low v (H++l) n cs:=by
 rcases h with h|⟨h0,b,h1,h2,h3,h4⟩
 ·exact .inl h
 ·exact .inr ⟨h0,b,h1,by rw[aMf];omega,h3,by rw[aNq h2];exact h4⟩
theorem Dw.step{H H2:Hp}{rows:List (List Rat)}{w i:Nat}{v:AV}{cs:List AV}{hs:List AV}(h:Dw H rows w v i)(sT:wW 1 0 v H i hs)(hi:hs.length=i)(D0:je cs (row rows i))(h1:H2[H.length+3]?=some (.cells .live (hs++[.aI (H.length+1) 0 w 4 w])))(hl:H2.length=H.length+4)(hk:∀k,k<H.length+2->(∀m,v≠ .aI k 0 m 1 m)->H2[k]?=(H++[.cells .dead [],cz.cells gu.live cs])[k]?):Dw H2 rows w (.aI (H.length+3) 0 (i+1) 1 (i+1)) (i+1):=by
 refine .inr ⟨by omega,H.length+3,_,rfl,by omega,h1,by simp[hi],?_⟩;intro j hj;by_cases e:j=i
 ·subst e;refine⟨H.length+1,cs,?_,by omega,by omega,?_,D0⟩
  ·rw[aQP,aTZ (by omega),hi,aK0];rfl
  ·rw[hk (H.length+1) (by omega)]
   ·rw[aTZ (by omega)];simp
   ·intro m e2;rcases sT with⟨-,-,e3⟩|⟨-,b,-,hb,e3,-⟩
    ·rw[e3]at e2;simp at e2
    ·rw[e3]at e2;simp at e2;omega
 ·rcases h with⟨h0,-⟩|⟨h0,b,Di,e1,h2,h3,h4,h5⟩
  ·omega
  ·obtain⟨c,vK,e2,hc,uk,h6,h7⟩:=h5 j (by omega);have hss:hs=Di:=by
    rcases sT with⟨h8,-,-⟩|⟨-,b',-,-,e3,h9⟩
    ·omega
    ·rw[e1]at e3;simp only[AV.aI.injEq,and_true]at e3;obtain rfl:=e3;rw[h3]at h9;simpa using h9.symm
   subst hss;refine⟨c,vK,?_,by omega,by omega,?_,h7⟩
   ·rw[aQP,aNq (by omega),<-aQP];exact e2
   ·rw[hk c (by omega)]
    ·rw[aNq uk];exact h6
    ·intro m e3;rw[e1]at e3;simp at e3;exact hc e3.1.symm
theorem Dw.frz{H:Hp}{rows:List (List Rat)}{w i:Nat}{v:AV}(h:Dw H rows w v i)(hi:i<=rows.length)(hw:∀j,j<i->(row rows j).length=w):∃o bs,fz H 39 v=some (o,bs)/\((i=0/\o=.aH)∨(0<i/\∃vs,o=.aK vs i/\oq vs (rows.take i) w)):=by
 rcases h with⟨h0,e⟩|⟨h0,b,hs,e1,h2,h3,h4,h5⟩
 ·subst e;exact⟨_,_,rfl,.inl ⟨h0,rfl⟩⟩
 ·have key:∀l:List AV,(∀x∈l,∃c cs,x=.aI c 0 w 4 w/\H[c]?=some (.cells .live cs)/\cs.length=w*4/\∀u∈cs,Flat u)->∃r,dP (fz H 38) l=some r/\r.length=l.length/\∀j,j<l.length->∃c cs,l.getD j aZ=.aI c 0 w 4 w/\H[c]?=some (.cells .live cs)/\(r.map (·.1)).getD j aZ=.aK cs w:=by
   intro l;induction l with
   |nil=>intro _;exact⟨[],rfl,rfl,by simp⟩
   |cons x l ih=>
    intro hx;obtain⟨r,Cg,G5,PI⟩:=ih fun y hy=>hx y (by simp[hy])
    obtain⟨c,cs,e,hc,iD,hf⟩:=hx x (by simp);have h6:=oe (n:=37) (off:=0) (len:=w) (esz:=4) (k:=w) hc (by decide) (by omega) (by rw[aPp,<-iD,aQV];exact gf hf);rw[iP,eo]at h6;subst e;refine⟨(.aK cs w,[c])::r,?_,by simp[G5],?_⟩
    ·unfold dP;rw[h6,Cg]
    ·intro j hj;cases j with
     |zero=>exact⟨c,cs,rfl,hc,rfl⟩
     |succ j=>
      obtain⟨c',vK,a1,a2,a3⟩:=PI j (by simpa using hj);exact⟨c',vK,by simpa using a1,a2,by simpa using a3⟩
  obtain⟨r,Cg,G5,PI⟩:=key hs (by
   intro x hx;obtain⟨j,hj,e⟩:=aTU hx;obtain⟨c,cs,a1,-,-,a4,a5⟩:=h5 j (by omega);rw[aQP,aL5 hj,aMp,e]at a1;exact⟨c,cs,a1,a4,by rw[a5.len,hw j (by omega)],a5.flat⟩)
  have h6:=oe (n:=38) (off:=0) (len:=i) (esz:=1) (k:=i) h3 (by decide) (by omega) (by rw[aPp,aPV,<-h4,aQV];exact Cg);subst e1;refine⟨_,_,h6,.inr ⟨h0,_,rfl,?_,?_⟩⟩
  ·rw[aTV,G5,h4,aMo];omega
  ·intro j hj;rw[aMo]at hj;have Ow:j<i:=by omega
   obtain⟨c,cs,a1,a2,a3⟩:=PI j (by omega);obtain⟨c',vK,b1,-,-,b4,b5⟩:=h5 j Ow;rw[a1]at b1;simp only[AV.aI.injEq,and_true]at b1;obtain rfl:=b1;rw[a2]at b4;simp only[aKV.injEq,cz.cells.injEq,true_and]at b4;subst b4;have hrt:row (rows.take i) j=row rows j:=by unfold row;rw[aQP,aK6,if_pos Ow,<-aQP]
   rw[hrt,a3];exact⟨⟨cs,by rw[hw j Ow],b5⟩,hw j Ow⟩
theorem YY{E:Env}{t s rR:Nat}{ag:Bool}{z:List AV}(hS:eu E t=some (ag,s,rR,z)){H:Hp}{cs:List AV}{n:Nat}{i:IntKind}:Ez E H t (.aK cs n) none (some (.int i 0))=some .eW:=by
 obtain⟨ti,e,ei,h1,h2,h3,h4,h5,_⟩:=ij hS;obtain⟨cV,isAgg,size,bytes,zero,eS⟩:=ti;simp only at h2;subst h2 h5
 have:=RQ (n:=n) (k:=0) (i:=i) (by omega)
 simp only[Int.cast_ofNat_Int]at this;simp[Ez,h1,iS,h3,show gW n n none (some (.int i 0))=some (0,0)from this]
structure BQ(eZ:List (List Rat))(w K:Nat)(o p:AV):Prop where
 ex:∃k rows gG,EY eZ k rows gG/\k<=w/\(k=w∨gG.length=rows.length)/\rows.length=eZ.length/\(∀i,i<rows.length->(row rows i).length=w)/\rH (5^w*K) rows/\gG.length<=rows.length/\((gG=[]/\p=.aH)∨p=.aK (gG.map fun k:Nat=>.int .i64 (k:Int)) gG.length)/\((gG.length=0/\o=.aH)∨(0<gG.length/\∃vs,o=.aK vs gG.length/\oq vs (rows.take gG.length) w))
theorem LD{vs0:List AV}{eZ:List (List Rat)}{w K:Nat}(RC:oq vs0 eZ w)(qM:rH K eZ)(hK:0<K)(hw:0<w)(hR:0<eZ.length)(hR2:eZ.length<=256)(Cf:w<=96)(zg:5^w*K<=10000000000):
  ∃o p,aP E 139 [.aK vs0 eZ.length]=some (.tuple [o,p,.int .i64 0])/\BQ eZ w K o p:=by
 suffices hh:∃u,aP E 139 [.aK vs0 eZ.length]=some u/\∃o p,u=.tuple [o,p,.int .i64 0]/\BQ eZ w K o p by
  obtain⟨u,h1,o,p,rfl,h2⟩:=hh;exact⟨o,p,h1,h2⟩
 have Eb:=Tj (E:=E) RC hR hR2 Cf;have vB:=KM (E:=E) RC hR hR2;obtain⟨u,Nn,⟨o,p,d,k,rows,gG,vs,rfl,hS,hk,N5,hlen,hm,hb,rfl,tE,hp,dq,Y6⟩⟩:=Hu (E:=E) RC qM hK hw hR hR2 Cf zg;obtain⟨Az,Bu,AL,Al,_,_,rfl,-,-,-,-⟩:=bX Y6;have DM:=aW _ Y6;have hwr:∀i,i<rows.length->(row rows i).length=w:=fun i hi=>(hm.2 i hi).2
 have By:k9 p=some (gG.length:Int):=by
  rcases hp with⟨rfl,rfl⟩|rfl<;>rfl
 have pp:aU p=true:=by
  rcases hp with⟨rfl,rfl⟩|rfl<;>rfl
 have hvl:vs.length=rows.length:=hm.1;obtain⟨sv,pV,apV,jw⟩:∃sv,(∀H,Ez E H 216 (.aK vs eZ.length) none (some (.int .i64 (gG.length:Int)))=some sv)/\k9 sv=some (gG.length:Int)/\∀i,i<gG.length->cF E 216 sv (.int .i64 (i:Int))=some (.eX (vs.take gG.length) i):=by
  by_cases h0:gG.length=0
  ·refine⟨.eW,fun H=>?_,by rw[h0];rfl,fun i hi=>by omega⟩;rw[h0];exact YY (E:=E) vQ
  ·have h1:=fun H=>YG (E:=E) vQ (H:=H) (cs:=vs) (n:=eZ.length) (k:=gG.length) (i:=.i64) (by omega) (by omega)
   rw[aPV]at h1;refine⟨_,h1,rfl,fun i hi=>?_⟩;rw[ab4,if_pos ⟨by omega,by omega⟩,Int.toNat_natCast,aPV]
 obtain⟨P,hP⟩:∃P,P=gG.length:=⟨_,rfl⟩;rw[<-hP]at By pV apV jw;refine nY an6 ?_;intro ts hl g0;have T:=jb C.toOver;unfold ar2;simp only[↓aN,aO,↓aQ,aJ,↓reduceIte,aa,ah,ae,Tryz.f139,aE,hl,g0,Eb,vB,Nn,DM,By,pV,apV];refine ft (fun k_ ts H=>∃i v HH,k_=P-i/\ts.length=41/\gt ts 3=p/\gt ts 8=v/\gt ts 27=sv/\gt ts 28=.int .i64 (P:Int)/\gt ts 29=.int .i64 (i:Int)/\H=HH/\(i<=P)/\(Dw HH rows w v i)) (P) ?_ ?_
 rotate_left
 ·refine⟨0,.aH,[.cells .live [.bool Az,Bu,.bool AL,Al]],(by first|omega|rfl|(simp;done)),(by simp only[cP,hl]),?_⟩;simp only[cR,hl,aa,ae]
  iterate 6 refine⟨by first|trivial|rfl|(congr 1;omega)|(simp;done)|(simp;omega),?_⟩
  refine⟨?_,?_⟩
  ·omega
  ·exact .inl ⟨rfl,rfl⟩
 clear hl g0 ts;rintro k_ ts H ⟨i,v,HH,rfl,hl,g3,g8,OD,Kf,JY,rfl,hi,hh⟩;refine VS ?_;by_cases hd:i<P
 ·have dc:decide ((i:Int)<(P:Int))=true:=b8 (by omega);have w1:aX .i64 ((i:Int)+1)=((i+1:Nat):Int):=by rw[wrap_i64 (by omega) (by omega)];omega
  have hg:=jw i hd;obtain⟨⟨cs,e1,rc⟩,h1⟩:=hm.2 i (by omega);rw[h1]at e1;have hpn:=fX (vs:=vs.take P) (i:=i) (by rw[aMo];omega);have Ok:(vs.take P).getD i aZ=vs.getD i aZ:=by rw[aQP,aK6,if_pos hd,<-aQP]
  rw[Ok,e1]at hpn;have iD:=M5 (E:=E) (H:=H) (cs:=cs) (n:=w) (by rw[rc.len,h1]) rc.one hw (by omega);obtain⟨hs,sT,hhl⟩:=hh.sl;obtain⟨bU,H2,iR,Ac,q1,q2,q3⟩:=lQ (E:=E) (H:=H++[.cells .dead [],.cells .live cs]) (x:=[.aI (H.length+1) 0 w 4 w]) vQ (by decide) (qz (l:=[.cells .dead [],.cells .live cs]) sT) (by omega) rfl rfl (by unfold gO;omega) (by omega);have JC:(H++[cz.cells gu.dead [],.cells .live cs]).length=H.length+2:=by simp
  have km:∀aL,aT E aL 216 1 [(0,.aI (H.length+1) 0 w 4 w)]=some (.aI aL 0 1 1 1,[(aL,.cells .live [.aI (H.length+1) 0 w 4 w])]):=fun aL=>ee vQ rfl (by decide) (by decide) rfl
  simp only[↓aN,aO,↓aQ,aJ,aa,ae,hl,g8,OD,Kf,JY,dc,w1,hg,hpn,iD,km,ep,iR,Ac];rw[JC]at q1 q2 q3⊢;refine dG ?_;refine⟨_,?_,i+1,(.aI (H.length+3) 0 (i+1) 1 (i+1)),H2,rfl,(by simp only[cP,hl]),?_⟩
  ·first|omega|(simp;omega)
  simp only[cR,hl,aa,ae,g3,OD,Kf]
  iterate 6 refine⟨by first|trivial|rfl|(congr 1;omega)|(simp;done)|(simp;omega),?_⟩
  refine⟨?_,?_⟩
  ·omega
  ·exact hh.step sT hhl rc q1 q2 q3
 ·have dc:decide ((i:Int)<(P:Int))=false:=cg (by omega);obtain rfl:i=P:=by omega
  obtain⟨oo,bs,hf,hoo⟩:=hh.frz (by omega) (fun j hj=>hwr j (by omega));have hfp:fz H 39 p=some (p,[]):=by
   rcases hp with⟨rfl,rfl⟩|rfl<;>rfl
  have yp:∀o,((i=0/\o=.aH)∨(0<i/\∃vs,o=.aK vs i/\oq vs (rows.take i) w))->BQ eZ w K o p:=by intro o ho;refine⟨k,rows,gG,hS,hk,N5,hlen,hwr,hb,tE,hp,?_⟩;rw[<-hP];exact ho
  rcases id hh with⟨h0,e⟩|⟨h0,b,hs,e,-⟩
  ·subst e;simp only[↓aN,aO,↓reduceIte,aa,ae,hl,g3,g8,Kf,JY,dc,pp];exact⟨_,_,rfl,yp _ (.inl ⟨h0,rfl⟩)⟩
  ·subst e;have gg:=K7 hf hfp (show fz H 39 (.int .i64 0)=some (.int .i64 0,[])from rfl);simp only[↓aN,aO,↓reduceIte,aa,ae,hl,g3,g8,Kf,JY,dc,pp,gg];exact⟨_,_,rfl,yp _ hoo⟩
def eI(a b:List Rat):Nat->Rat
 |0=>0
 |i+1=>eI a b i+a.getD i 0*b.getD i 0
theorem xI{a b:List Rat}{k l:Nat}(ba:BL k a)(bb:BL l b)(Hd:b.length=a.length):∀{i:Nat},i<=a.length->Bq (i*(k+l+1)+1) (eI a b i)
 |0,_=>BA.mono (by omega)
 |i+1,h=>by
  have h1:=xI ba bb Hd (i:=i) (by omega);have h2:=h1.add ((ba.get (i:=i) (by omega)).mul (bb.get (i:=i) (by omega)));refine h2.mono ?_;rw[Nat.succ_mul];omega
theorem x6{v u:AV}{a b:List Rat}(h:iY v a)(h':iY u b)(Hd:b.length=a.length)(n8:a.length<=1000){k l:Nat}(ba:BL k a)(bb:BL l b)(hk:k+l<=10000000):∃r,aP E 131 [v,u]=some r/\dA r (eI a b a.length):=by
 obtain⟨ca,rfl,ra⟩:=h;obtain⟨cb,rfl,rb⟩:=h';have hbound:∀i,i<=a.length->i*(k+l+1)<=1000*10000001:=fun i hi=>Nat.mul_le_mul (by omega) (by omega)
 refine tp anU ?_;intro ts hl g0 g1;unfold amG;simp only[↓aN,aO,aJ,↓reduceIte,aa,ah,ae,Tryz.f131,hl,g0];refine ft (fun k_ ts H=>∃i sn0 sm0 sn1 sm1,k_=a.length-i/\ts.length=40/\gt ts 0=.aK ca a.length/\gt ts 1=.aK cb b.length/\gt ts 4=.b9 0 0/\gt ts 5=.b9 1 0/\gt ts 9=.int .i64 (a.length:Int)/\gt ts 10=.int .i64 (i:Int)/\H=[.cells .live [.bool false,.aH,.bool false,.aH],.cells .live [.bool sn0,sm0,.bool sn1,sm1]]/\(i<=a.length)/\(dA (.agg [.bool sn0,sm0,.bool sn1,sm1]) (eI a b i))) (a.length) ?_ ?_
 rotate_left
 ·refine⟨0,false,.aH,false,.aH,(by first|omega|rfl|(simp;done)),(by simp only[cP,hl]),?_⟩;simp only[cR,hl,aa,ae,g0,g1]
  iterate 7 refine⟨by first|trivial|rfl|(congr 1;omega)|(simp;done)|(simp;omega),?_⟩
  refine⟨?_,?_⟩
  ·omega
  ·exact rU
 clear hl g0 g1 ts;rintro k_ ts H ⟨i,sn0,sm0,sn1,sm1,rfl,hl,g0,g1,g4,g5,g9,g10,rfl,hi,hs⟩;refine VS ?_;have SM:=aW _ hs;by_cases hd:i<a.length
 ·have dc:decide ((i:Int)<(a.length:Int))=true:=b8 (by omega);have mM:((i:Int)<(a.length:Int))=True:=eq_true (by omega);have cb1:((i:Int)<(b.length:Int))=True:=eq_true (by omega);have w1:aX .i64 ((i:Int)+1)=((i+1:Nat):Int):=by rw[wrap_i64 (by omega) (by omega)];omega
  obtain⟨n1,m1,n2,m2,e1,r1⟩:=ra.get hd;obtain⟨n3,m3,n4,m4,e2,r2⟩:=rb.get (i:=i) (by omega);have p1:=kb (cs:=ca) (o:=i*4) (by have:=ra.len;omega);have p2:=kb (cs:=cb) (o:=i*4) (by have:=rb.len;omega);rw[e1]at p1;rw[e2]at p2;have A:=aW _ r1;have B:=aW _ r2;have s1:=gz (E:=E) r1;have s2:=gz (E:=E) r2;have z1:=uD (a.getD i 0);have z2:=uD (b.getD i 0);have bai:=ba.get hd;have bbi:=bb.get (i:=i) (by omega);by_cases h1:a.getD i 0=0
  ·rw[b8 h1]at z1;have hsk:eI a b (i+1)=eI a b i:=by rw[eI,h1,Rat.zero_mul,Rat.add_zero]
   simp only[↓aN,aO,↓aQ,aJ,↓reduceIte,aa,ae,hl,g0,g9,g10,mM,w1,p1,A,s1,z1];refine dG ?_;refine⟨_,?_,i+1,sn0,sm0,sn1,sm1,rfl,(by simp only[cP,hl]),?_⟩
   ·first|omega|(simp;omega)
   simp only[cR,hl,aa,ae,g0,g1,g4,g5,g9]
   iterate 7 refine⟨by first|trivial|rfl|(congr 1;omega)|(simp;done)|(simp;omega),?_⟩
   refine⟨?_,?_⟩
   ·omega
   ·rw[hsk];exact hs
  ·rw[cg h1]at z1;by_cases h2:b.getD i 0=0
   ·rw[b8 h2]at z2;have hsk:eI a b (i+1)=eI a b i:=by rw[eI,h2,Rat.mul_zero,Rat.add_zero]
    simp only[↓aN,aO,↓aQ,aJ,↓reduceIte,aa,ae,hl,g0,g1,g9,g10,mM,cb1,w1,p1,p2,A,B,s1,s2,z1,z2];refine dG ?_;refine⟨_,?_,i+1,sn0,sm0,sn1,sm1,rfl,(by simp only[cP,hl]),?_⟩
    ·first|omega|(simp;omega)
    simp only[cR,hl,aa,ae,g0,g1,g4,g5,g9]
    iterate 7 refine⟨by first|trivial|rfl|(congr 1;omega)|(simp;done)|(simp;omega),?_⟩
    refine⟨?_,?_⟩
    ·omega
    ·rw[hsk];exact hs
   ·rw[cg h2]at z2;have hbi:=hbound i hi;obtain⟨x,hx,ix⟩:=gQ (E:=E) r1 r2 bai bbi (by omega);obtain⟨y,hy,iy⟩:=mj (E:=E) hs ix (xI ba bb Hd hi) (bai.mul bbi) (by omega);have px:=jg ix;obtain⟨kV,k7,kW,k6,_,_,rfl,-,-,-,-⟩:=bX iy;have YM:=aW _ iy;simp only[↓aN,aO,↓aQ,aJ,↓reduceIte,aa,ah,ae,hl,g0,g1,g5,g9,g10,mM,cb1,w1,p1,p2,A,B,s1,s2,z1,z2,SM,YM,hx,hy,px];refine dG ?_;refine⟨_,?_,i+1,kV,k7,kW,k6,rfl,(by simp only[cP,hl]),?_⟩
    ·first|omega|(simp;omega)
    simp only[cR,hl,aa,ae,g0,g1,g4,g5,g9]
    iterate 7 refine⟨by first|trivial|rfl|(congr 1;omega)|(simp;done)|(simp;omega),?_⟩
    refine⟨?_,?_⟩
    ·omega
    ·exact iy
 ·have dc:decide ((i:Int)<(a.length:Int))=false:=cg (by omega);obtain rfl:i=a.length:=by omega
  simp only[↓aN,aO,aJ,↓reduceIte,aa,ah,ae,hl,g4,g5,g9,g10,dc,SM];exact hs
theorem IS{v:AV}{a:List Rat}(h:iY v a)(n8:a.length<=1000):∃r,aP E 100 [v]=some r/\iY r (aSR (fun x _=> -x) a a):=by
 obtain⟨ca,rfl,ra⟩:=h;have Hf:=fun aL=>zM (E:=E) (aL:=aL) (m:=a.length) (k:=.i64) (k':=.i64) (by omega)
 refine nY ash ?_;intro ts hl g0;unfold aqG;simp only[↓aN,aO,aJ,aa,ae,Tryz.f100,hl,g0,Hf];refine ft (fun k_ ts H=>∃i cs,k_=a.length-i/\ts.length=23/\gt ts 0=.aK ca a.length/\gt ts 3=.aI 0 0 a.length 4 a.length/\gt ts 9=.int .i64 (a.length:Int)/\gt ts 10=.int .i64 (i:Int)/\H=[.cells .live cs]/\(i<=a.length)/\(je cs (D7 (fun x _=> -x) a a i))) (a.length) ?_ ?_
 rotate_left
 ·refine⟨0,(iE [.bool false,.aH,.bool false,.aH] a.length),(by first|omega|rfl|(simp;done)),(by simp only[cP,hl]),?_⟩;simp only[cR,hl,aa,ae,g0]
  iterate 5 refine⟨by first|trivial|rfl|(congr 1;omega)|(simp;done)|(simp;omega),?_⟩
  refine⟨?_,?_⟩
  ·omega
  ·exact je.E9 _
 clear hl g0 ts;rintro k_ ts H ⟨i,cs,rfl,hl,g0,g3,g9,g10,rfl,hi,hc⟩;refine VS ?_;have iD:=hc.len;rw[jR]at iD;by_cases hd:i<a.length
 ·have dc:decide ((i:Int)<(a.length:Int))=true:=b8 (by omega);have mM:((i:Int)<(a.length:Int))=True:=eq_true (by omega);have w1:aX .i64 ((i:Int)+1)=((i+1:Nat):Int):=by rw[wrap_i64 (by omega) (by omega)];omega
  obtain⟨n1,m1,n2,m2,e1,r1⟩:=ra.get hd;have p1:=kb (cs:=ca) (o:=i*4) (by have:=ra.len;omega);rw[e1]at p1;obtain⟨r,hr,ir⟩:=tW (E:=E) r1;obtain⟨n5,m5,n6,m6,_,_,rfl,-,-,-,-⟩:=bX ir;have A:=aW _ r1;have D:=aW _ ir;have fZ:=wu (H:=[.cells .live cs]) (b:=0) (o:=i*4) (cs:=cs) (xs:=[.bool n5,m5,.bool n6,m6]) rfl rfl (by omega) (by simp only[aN1,oK,D.2.1,D.2.2.2,aPy,aPt]);have oc:=hc.set (i:=i) (by rw[jR];exact hd) ir;have UM:decide (i*4+4<=cs.length)=true:=b8 (by omega);simp only[↓aN,aO,↓aQ,aJ,↓reduceIte,aa,ah,ae,hl,g0,g3,g9,g10,mM,w1,p1,hr,A,fZ];refine dG ?_;refine⟨_,?_,i+1,cH cs (i*4) [.bool n5,m5,.bool n6,m6],rfl,(by simp only[cP,hl]),?_⟩
  ·first|omega|(simp;omega)
  simp only[cR,hl,aa,ae,g0,g3,g9]
  iterate 5 refine⟨by first|trivial|rfl|(congr 1;omega)|(simp;done)|(simp;omega),?_⟩
  refine⟨?_,?_⟩
  ·omega
  ·exact oc
 ·have dc:decide ((i:Int)<(a.length:Int))=false:=cg (by omega);obtain rfl:i=a.length:=by omega
  have gg:=iJ (H:=[.cells .live cs]) (b:=0) (m:=a.length) (s:=4) (st:=.live) rfl (by decide) iD hc.flat;simp only[↓aN,aO,↓reduceIte,aa,ae,hl,g3,g9,g10,dc,gg];rw[Bv rfl]at hc;refine⟨cs,?_,hc⟩;rw[aSY,aT0]
theorem U1{v u s t:AV}{a b:List Rat}{j q:Rat}(h:iY v a)(hj:dA s j)(h':iY u b)(hq:dA t q)(Hd:b.length=a.length)(n8:a.length<=1000){k l:Nat}(ba:BL k a)(bb:BL k b)(bj:Bq l j)(bq:Bq l q)(hk:k+l<=10000000000):∃r,aP E 136 [v,s,u,t]=some r/\iY r (aSR (fun x y=>x*j+y*q) a b):=by
 obtain⟨ca,rfl,ra⟩:=h;obtain⟨cb,rfl,rb⟩:=h';obtain⟨jn0,jm0,jn1,jm1,_,_,rfl,-,-,-,-⟩:=bX hj;obtain⟨zO,zK,zI,zQ,_,_,rfl,-,-,-,-⟩:=bX hq;have JM:=aW _ hj;have QM:=aW _ hq;have Hf:=fun aL=>zM (E:=E) (aL:=aL) (m:=a.length) (k:=.i64) (k':=.i64) (by omega)
 refine gw4 asN ?_;intro ts hl g0 g1 g2 g3;unfold amH;simp only[↓aN,aO,aJ,aa,ah,ae,Tryz.f136,hl,g0,g1,g3,Hf];refine ft (fun k_ ts H=>∃i cs,k_=a.length-i/\ts.length=37/\gt ts 0=.aK ca a.length/\gt ts 2=.aK cb b.length/\gt ts 5=.b9 0 0/\gt ts 7=.b9 1 0/\gt ts 9=.aI 2 0 a.length 4 a.length/\gt ts 15=.int .i64 (a.length:Int)/\gt ts 16=.int .i64 (i:Int)/\H=[.cells .live [.bool jn0,jm0,.bool jn1,jm1],.cells .live [.bool zO,zK,.bool zI,zQ],.cells .live cs]/\(i<=a.length)/\(je cs (D7 (fun x y=>x*j+y*q) a b i))) (a.length) ?_ ?_
 rotate_left
 ·refine⟨0,(iE [.bool false,.aH,.bool false,.aH] a.length),(by first|omega|rfl|(simp;done)),(by simp only[cP,hl]),?_⟩;simp only[cR,hl,aa,ae,g0,g2]
  iterate 8 refine⟨by first|trivial|rfl|(congr 1;omega)|(simp;done)|(simp;omega),?_⟩
  refine⟨?_,?_⟩
  ·omega
  ·exact je.E9 _
 clear hl g0 g1 g2 g3 ts;rintro k_ ts H ⟨i,cs,rfl,hl,g0,g2,g5,g7,g9,g15,g16,rfl,hi,hc⟩;refine VS ?_;have iD:=hc.len;rw[jR]at iD;by_cases hd:i<a.length
 ·have dc:decide ((i:Int)<(a.length:Int))=true:=b8 (by omega);have mM:((i:Int)<(a.length:Int))=True:=eq_true (by omega);have cb1:((i:Int)<(b.length:Int))=True:=eq_true (by omega);have w1:aX .i64 ((i:Int)+1)=((i+1:Nat):Int):=by rw[wrap_i64 (by omega) (by omega)];omega
  obtain⟨n1,m1,n2,m2,e1,r1⟩:=ra.get hd;obtain⟨n3,m3,n4,m4,e2,r2⟩:=rb.get (i:=i) (by omega);have p1:=kb (cs:=ca) (o:=i*4) (by have:=ra.len;omega);have p2:=kb (cs:=cb) (o:=i*4) (by have:=rb.len;omega);rw[e1]at p1;rw[e2]at p2;have bai:=ba.get hd;have bbi:=bb.get (i:=i) (by omega);obtain⟨x,hx,ix⟩:=gQ (E:=E) r1 hj bai bj (by omega);obtain⟨y,hy,iy⟩:=gQ (E:=E) r2 hq bbi bq (by omega);obtain⟨r,hr,ir⟩:=mj (E:=E) ix iy (bai.mul bj) (bbi.mul bq) (by omega);have px:=jg ix;have py:=jg iy;obtain⟨n5,m5,n6,m6,_,_,rfl,-,-,-,-⟩:=bX ir;have A:=aW _ r1;have B:=aW _ r2;have D:=aW _ ir;have fZ:=wu (H:=[.cells .live [.bool jn0,jm0,.bool jn1,jm1],.cells .live [.bool zO,zK,.bool zI,zQ],.cells .live cs]) (b:=2) (o:=i*4) (cs:=cs) (xs:=[.bool n5,m5,.bool n6,m6]) rfl rfl (by omega) (by simp only[aN1,oK,D.2.1,D.2.2.2,aPy,aPt]);have oc:=hc.set (i:=i) (by rw[jR];exact hd) ir;have UM:decide (i*4+4<=cs.length)=true:=b8 (by omega);simp only[↓aN,aO,↓aQ,aJ,↓reduceIte,aa,ah,ae,hl,g0,g2,g5,g7,g9,g15,g16,mM,cb1,w1,p1,p2,hx,hy,hr,px,py,JM,QM,A,B,fZ];refine dG ?_;refine⟨_,?_,i+1,cH cs (i*4) [.bool n5,m5,.bool n6,m6],rfl,(by simp only[cP,hl]),?_⟩
  ·first|omega|(simp;omega)
  simp only[cR,hl,aa,ae,g0,g2,g5,g7,g9,g15]
  iterate 8 refine⟨by first|trivial|rfl|(congr 1;omega)|(simp;done)|(simp;omega),?_⟩
  refine⟨?_,?_⟩
  ·omega
  ·exact oc
 ·have dc:decide ((i:Int)<(a.length:Int))=false:=cg (by omega);obtain rfl:i=a.length:=by omega
  have gg:=iJ (H:=[.cells .live [.bool jn0,jm0,.bool jn1,jm1],.cells .live [.bool zO,zK,.bool zI,zQ],.cells .live cs]) (b:=2) (m:=a.length) (s:=4) (st:=.live) rfl (by decide) iD hc.flat;simp only[↓aN,aO,↓reduceIte,aa,ae,hl,g9,g15,g16,dc,gg];rw[Bv Hd]at hc;refine⟨cs,?_,hc⟩;rw[aSY,Hd,aT0]
def om(t:Tw):V3:=dW ((1:Int)/mu t.a t.a) (dH t.a t.l)
def oh(t:Tw):Rat:=mu t.a t.l*((1:Int)/mu t.a t.a)
theorem AR{v:AV}{t:Tw}(h:wi v t){k:Nat}(bt:BT k t)(hk:k<=100000000)(dY:mu t.a t.a≠0):∃p q,aP E 58 [v]=some (.tuple [p,q])/\eY p (om t)/\dA q (oh t):=by
 suffices hh:∃u,aP E 58 [v]=some u/\∃p q,u=.tuple [p,q]/\eY p (om t)/\dA q (oh t)by
  obtain⟨u,h1,p,q,rfl,h2⟩:=hh;exact⟨p,q,h1,h2⟩
 obtain⟨J8,Km,Kz,JK,Ng,MV,N1,Nc,ND,Ol,NW,Oe,G6,G3,Hg,Hb,GB,E7,U7,T4,VR,Vz,VG,VJ,rfl,ha,hb⟩:=h;obtain⟨o,ho,io⟩:=kF (E:=E) (n:=1) (by omega) (by omega);have bo:Bq 1 ((1:Int):Rat):=⟨by decide,by decide⟩;obtain⟨d,hd,BB⟩:=rJ (E:=E) ha ha bt.1 bt.1 (by omega);have bd:=rP bt.1 bt.1;obtain⟨q,hq,iq⟩:=ya (E:=E) io BB bo bd (by omega) dY;have bq:=bo.div bd dY;obtain⟨c,hc,ic⟩:=oJ (E:=E) ha hb bt.1 bt.2 (by omega);have bc:=jG bt.1 bt.2;obtain⟨p,hp,ip⟩:=kn (E:=E) ic iq bc bq (by omega);obtain⟨f,hf,if'⟩:=rJ (E:=E) ha hb bt.1 bt.2 (by omega);have bf:=rP bt.1 bt.2;obtain⟨g,hg,ig⟩:=gQ (E:=E) if' iq bf bq (by omega);have po:=jg io;have pd:=jg BB;have pc:=ja ic;have pf:=jg if';obtain⟨zO,zK,zI,zQ,_,_,rfl,-,-,-,-⟩:=bX iq;obtain⟨gn0,gm0,gn1,gm1,_,_,rfl,-,-,-,-⟩:=bX ig;obtain⟨VB,Vx,VE,VI,pn2,pm2,pn3,pm3,pn4,pm4,pn5,pm5,rfl,-,-,-,P,O⟩:=bM ip;have QM:=aW _ iq;have GM:=aW _ ig;have A:=bP ha;have B:=bP hb;refine nY auB ?_;intro ts hl g0;unfold c58
 simp(maxSteps:=2000000)only[↓aN,aO,↓aQ,aJ,↓reduceIte,aa,ah,ae,Tryz.f58,ai,aj,aj,hl,g0,A,B,P,O,QM,GM,po,pd,pc,pf,ho,hd,hq,hc,hp,hf,hg]
 exact⟨_,_,rfl,ip,ig⟩
def U3R(v:AV)(a b c:V3):Prop:=∃jo ji jr jh kf jY kj j6 kh j7 ke j8 kV k7 kW k6 lH lK lG lI lE lL lC lF yL yq yM yo yw yO yx ym yr yN yD yK,v=.agg [.bool jo,ji,.bool jr,jh,.bool kf,jY,.bool kj,j6,.bool kh,j7,.bool ke,j8,.bool kV,k7,.bool kW,k6,.bool lH,lK,.bool lG,lI,.bool lE,lL,.bool lC,lF,.bool yL,yq,.bool yM,yo,.bool yw,yO,.bool yx,ym,.bool yr,yN,.bool yD,yK]/\eY (.agg [.bool jo,ji,.bool jr,jh,.bool kf,jY,.bool kj,j6,.bool kh,j7,.bool ke,j8]) a/\eY (.agg [.bool kV,k7,.bool kW,k6,.bool lH,lK,.bool lG,lI,.bool lE,lL,.bool lC,lF]) b/\eY (.agg [.bool yL,yq,.bool yM,yo,.bool yw,yO,.bool yx,ym,.bool yr,yN,.bool yD,yK]) c
theorem qR:∃r,aP E 80 []=some r/\U3R r ⟨(1:Int),(0:Int),(0:Int)⟩ ⟨(0:Int),(1:Int),(0:Int)⟩ ⟨(0:Int),(0:Int),(1:Int)⟩:=by
 obtain⟨a,ha,ia⟩:=tI (E:=E) (x:=1) (y:=0) (z:=0) (by omega) (by omega) (by omega) (by omega) (by omega) (by omega);obtain⟨b,hb,ib⟩:=tI (E:=E) (x:=0) (y:=1) (z:=0) (by omega) (by omega) (by omega) (by omega) (by omega) (by omega);obtain⟨c,hc,ic⟩:=tI (E:=E) (x:=0) (y:=0) (z:=1) (by omega) (by omega) (by omega) (by omega) (by omega) (by omega);obtain⟨jo,ji,jr,jh,kf,jY,kj,j6,kh,j7,ke,j8,rfl,-,-,-,P,O⟩:=bM ia;obtain⟨kV,k7,kW,k6,lH,lK,lG,lI,lE,lL,lC,lF,rfl,-,-,-,P1,O1⟩:=bM ib;obtain⟨yL,yq,yM,yo,yw,yO,yx,ym,yr,yN,yD,yK,rfl,-,-,-,P2,O2⟩:=bM ic;refine gw0 azW ?_;intro ts hl;unfold c80
 simp(maxSteps:=2000000)only[↓aN,aO,↓aQ,aJ,↓reduceIte,aa,ah,ak,ae,Tryz.f80,ai,hl,P,O,P1,O1,P2,O2,ha,hb,hc]
 exact⟨jo,ji,jr,jh,kf,jY,kj,j6,kh,j7,ke,j8,kV,k7,kW,k6,lH,lK,lG,lI,lE,lL,lC,lF,yL,yq,yM,yo,yw,yO,yx,ym,yr,yN,yD,yK,rfl,ia,ib,ic⟩
def QD(E:Env)(t n e:Nat):Bool:=match E.ty t with
 |some i=>(match i.cV with|.array m f=>i.eS&&(m==n&&f==e)|_=>false)
 |none=>false
theorem Wj{E:Env}(C:Ctx E){t n e:Nat}(h:QD E0 t n e=true):QD E t n e=true:=by unfold QD at h⊢;rw[C.ty];exact h
theorem Kh{E:Env}{t m:Nat}(h:ll E t=true){a b:List UInt8}:yJ E (m+1) t (.str a) (.str b)=some (a==b):=by
 unfold ll at h;cases hi:E.ty t with
 |none=>rw[hi]at h;cases h
 |some i=>
  rw[hi]at h;obtain⟨cV,isAgg,size,bytes,zero,eS⟩:=i;cases cV<;>first|(cases h;done)|simp[yJ,hi]
theorem Bi{c:Bool}{s0 s1 s2:List UInt8}:dC E c .neq 37 (.agg [.str s0,.str s1,.str s2]) (.agg [.str [],.str [],.str []])=some (.bool (!(decide (s0=[]/\s1=[]/\s2=[])))):=by
 have h:QD E 37 3 26=true:=Wj C (by kernel_rfl);have hs:ll E 26=true:=MC C (by kernel_rfl);have LZ:gv E 37=some (3,false,1):=Ak C (by kernel_rfl);unfold QD at h;unfold gv at LZ;cases hi:E.ty 37 with
 |none=>rw[hi]at h;cases h
 |some i=>
  rw[hi]at h LZ;obtain⟨cV,isAgg,size,bytes,zero,eS⟩:=i;cases cV<;>first|(cases h;done)|skip
  rename_i m f;simp only[aLR,beq_iff_eq]at h;obtain⟨h1,rfl,rfl⟩:=h;subst h1;simp only at LZ;cases he:E.ty 26 with
  |none=>rw[he]at LZ;cases LZ
  |some ei=>
   rw[he]at LZ;simp only[aKV.injEq,Prod.mk.injEq]at LZ;obtain⟨-,h2,h3⟩:=LZ;have hp:∀(l:List AV) (j:Nat),jq E 26 l j=l[j]?:=by intro l j;simp[jq,he,h2]
   have e1:yJ E 20 37 (.agg [.str s0,.str s1,.str s2]) (.agg [.str [],.str [],.str []])=some (decide (s0=[]/\s1=[]/\s2=[])):=by
    unfold yJ;simp only[hi,he,h3];by_cases g0:s0=[]
    ·by_cases g1:s1=[]
     ·by_cases g2:s2=[]
      ·simp[jL,hp,Kh hs,g0,g1,g2]
      ·have i2:s2.isEmpty=false:=by simpa using g2
       simp[jL,hp,Kh hs,g0,g1,g2,i2]
     ·have i1:s1.isEmpty=false:=by simpa using g1
      simp[jL,hp,Kh hs,g0,g1,i1]
    ·have i0:s0.isEmpty=false:=by simpa using g0
     simp[jL,hp,Kh hs,g0,i0]
   simp[dC,dC.zl,hi,e1]
def dM(has:Bool)(s0 s1 s2:List UInt8):Int:=if has=true then kQ 65536 s0 s1 s2 else if s0=[]/\s1=[]/\s2=[]then 0 else 3
def cU(has:Bool)(s0 s1 s2:List UInt8):V3:=if has=true then cT 65536 s0 s1 s2 else v0
theorem uy{has:Bool}{s0 s1 s2:List UInt8}(h0:s0.length<=4611686018427387904)(h1:s1.length<=4611686018427387904)(h2:s2.length<=4611686018427387904):∃r,aP E 46 [.bool has,.agg [.str s0,.str s1,.str s2]]=some (.tuple [r,.int .i64 (dM has s0 s1 s2)])/\eY r (cU has s0 s1 s2):=by
 suffices hh:∃u,aP E 46 [.bool has,.agg [.str s0,.str s1,.str s2]]=some u/\∃r,u=.tuple [r,.int .i64 (dM has s0 s1 s2)]/\eY r (cU has s0 s1 s2)by
  obtain⟨u,h1,r,rfl,h2⟩:=hh;exact⟨r,h1,h2⟩
 obtain⟨r,hr,ir⟩:=cw (E:=E) h0 h1 h2;obtain⟨jo,ji,jr,jh,kf,jY,kj,j6,kh,j7,ke,j8,rfl,-,-,-,P,O⟩:=bM ir;have hq:=fun{c:Bool}=>Bi (E:=E) (c:=c) (s0:=s0) (s1:=s1) (s2:=s2)
 refine tp avJ ?_;intro ts hl g0 g1;unfold c46 dM cU;cases has with
 |true=>
  simp only[↓aN,aO,↓aQ,aJ,↓reduceIte,aa,ah,ae,Tryz.f46,hl,g0,g1,P,O,hr];exact⟨_,rfl,ir⟩
 |false=>
  by_cases he:s0=[]/\s1=[]/\s2=[]
  ·rw[b8 he]at hq;simp only[↓aN,aO,aJ,↓reduceIte,aa,ah,ae,Tryz.f46,hl,g0,g1,hq];simp only[he,and_self,if_true];exact⟨_,rfl,vC⟩
  ·rw[cg he]at hq;simp only[↓aN,aO,aJ,↓reduceIte,aa,ah,ae,Tryz.f46,hl,g0,g1,hq,he];exact⟨_,rfl,vC⟩
theorem afm(f:Nat)(l:List AV)(h:f∉Gt):jC Bz f l=none:=by
 have h':∀x∈Gt,f≠x:=fun x hx e=>h (e▸hx)
 simp only[Gt,aMc,aS7,or_false,forall_eq_or_imp,forall_eq]at h';obtain⟨a,b,c,d,e,g,i,j,k,m⟩:=h';simp[jC,Bz,a,b,c,d,e,g,i,j,k,m]
theorem nj{E:Env}(C:Ctx E):E=E0:=by
 have h1:=C.fn;have h2:=C.ty;have h3:=C.sj;have h4:=C.pairs;have h5:=C.glob;have h6:E.ov=jC Bz:=by
  funext f l;by_cases h:f∈Gt
  ·exact C.Uw f l h
  ·rw[C.ov f l h,afm f l h]
 have h7:E0=Env.mk E0.ty E0.fn E0.glob (jC Bz) (fun _ _ _=>none) E0.pairs:=by kernel_rfl
 rw[h7,<-h1,<-h2,<-h3,<-h4,<-h5,<-h6]
theorem kr{f n:Nat}{l:List AV}{r:AV}(hp:bQ E0 f=false)(h:call E0 n f l=some r):aP E f l=some r:=by
 rw[nj C];refine eh ⟨fun fi mI=>?_,n,h⟩;unfold bQ at hp;rw[mI]at hp;obtain⟨code,ntmps,results,pu,du⟩:=fi;cases pu
 ·simp at hp
 ·rfl
def ab(s:List UInt8)(d:Int)(a b c:Bool):AV:=.agg [.str s,.int .i64 d,.bool a,.bool b,.bool c]
def uN:List AV:=[ab [102,105,120,101,100] 0 false false false,ab [114,101,118,111,108,117,116,101] 1 true true false,ab [112,114,105,115,109,97,116,105,99] 1 true false false,ab [104,101,108,105,99,97,108] 1 true true true,ab [99,121,108,105,110,100,114,105,99,97,108] 2 true true false,ab [115,112,104,101,114,105,99,97,108] 3 false true false,ab [112,108,97,110,97,114] 3 true false false,ab [102,114,101,101] 6 false false false,ab [111,116,104,101,114] 0 false false false]
def DC:List AV:=[.int .i64 0,.int .i64 1,.int .i64 2,.int .i64 3,.int .i64 4,.int .i64 5,.int .i64 6,.int .i64 7,.int .i64 8]
theorem sE:aP E 45 []=some (.tO DC uN):=kr (n:=40) (by kernel_rfl) (by kernel_rfl)
theorem Kv{a b:Int}:tn E 3 (.int .i64 a) (.int .i64 b)=some (a==b):=by
 have h:iI E 3=some .i64:=Eh C (by kernel_rfl);unfold iI at h;unfold tn yJ;cases hi:E.ty 3 with
 |none=>rw[hi]at h;cases h
 |some i=>
  rw[hi]at h;obtain⟨cV,isAgg,size,bytes,zero,eS⟩:=i;cases cV<;>first|(cases h;done)|simp
theorem ahW:plainKey E 20 3=true:=by
 have h:iI E 3=some .i64:=Eh C (by kernel_rfl);unfold iI at h;unfold plainKey;cases hi:E.ty 3 with
 |none=>rw[hi]at h;cases h
 |some i=>
  rw[hi]at h;obtain⟨cV,isAgg,size,bytes,zero,eS⟩:=i;cases cV<;>first|(cases h;done)|rfl
def isMap(E:Env)(t k e:Nat):Bool:=match E.ty t with
 |some i=>(match i.cV with|.map a b=>a==k&&b==e|_=>false)
 |none=>false
def yY(z:Int):AV:=uN.getD z.toNat aZ
theorem sN{H:Hp}{z:Int}:gL E H 113 (.tO DC uN) (.int .i64 z) true=some (if 0<=z/\z<=8 then .tuple [yY z,.bool true]else .tuple [ab [] 0 false false false,.bool false]):=by
 have h:isMap E 113 3 111=true:=by
  have h0:isMap E0 113 3 111=true:=by kernel_rfl
  unfold isMap at h0⊢;rw[C.ty];exact h0
 have hz:fR E 111=some (ab [] 0 false false false):=sw C (by kernel_rfl);unfold isMap at h;unfold gL;cases hi:E.ty 113 with
 |none=>rw[hi]at h;cases h
 |some i=>
  rw[hi]at h;obtain⟨cV,isAgg,size,bytes,zero,eS⟩:=i;cases cV<;>first|(cases h;done)|skip
  rename_i a b;simp only[aLR,beq_iff_eq]at h;obtain⟨rfl,rfl⟩:=h;simp only[FJ,ahW,Kv,beq_self_eq_true,Bool.not_true,Bool.false_or];rw[if_neg (by simp)];by_cases hr:0<=z/\z<=8
  ·rw[if_pos hr];obtain h|h|h|h|h|h|h|h|h:z=0∨z=1∨z=2∨z=3∨z=4∨z=5∨z=6∨z=7∨z=8:=by omega
   all_goals subst h;simp[vf,DC,uN,yY,Kv]
  ·rw[if_neg hr];have hn:∀k:Int,0<=k->k<=8->(z==k)=false:=by intro k h1 h2;rw[beq_eq_false_iff_ne];omega
   have hf:vf (tn E 3) (.int .i64 z) DC uN 0=some none:=by simp only[vf,DC,uN,Kv,hn 0 (by omega) (by omega),hn 1 (by omega) (by omega),hn 2 (by omega) (by omega),hn 3 (by omega) (by omega),hn 4 (by omega) (by omega),hn 5 (by omega) (by omega),hn 6 (by omega) (by omega),hn 7 (by omega) (by omega),hn 8 (by omega) (by omega)]
   rw[hf];simp[hz]
theorem KZ{z:Int}(h:0<=z/\z<=8):∃s d a b c,yY z=.agg [.str s,.int .i64 d,.bool a,.bool b,.bool c]:=by
 obtain e|e|e|e|e|e|e|e|e:z=0∨z=1∨z=2∨z=3∨z=4∨z=5∨z=6∨z=7∨z=8:=by omega
 all_goals subst e;exact⟨_,_,_,_,_,rfl⟩
def nameOf(z:Int):List UInt8:=match yY z with
 |.agg (.str s::_)=>s
 |_=>[]
theorem IB{z:Int}:aP E 14 [.int .i64 z]=some (.tuple [.str (if 0<=z/\z<=8 then nameOf z else []),.bool (decide (0<=z/\z<=8))]):=by
 refine dX ?_;have hf:=sE (E:=E);have tF:=fun H=>sN (E:=E) (H:=H) (z:=z)
 refine nY azz ?_;intro ts hl g0;unfold c14;by_cases hr:0<=z/\z<=8
 ·obtain⟨s,d,a,b,c,e⟩:=KZ hr;have hn:nameOf z=s:=by unfold nameOf;rw[e]
  rw[if_pos hr,hn,b8 hr];simp only[if_pos hr,e]at tF;simp only[↓aN,aO,↓aQ,aJ,↓reduceIte,aa,ah,ae,Tryz.f14,hl,g0,hf,tF]
 ·rw[if_neg hr,cg hr];simp only[if_neg hr,ab]at tF;simp only[↓aN,aO,↓aQ,aJ,↓reduceIte,aa,ah,ae,Tryz.f14,hl,g0,hf,tF]
theorem Yf{L:Int}{s:List UInt8}(h:cN L s=0):(s.length:Int)<=L/\Ew (oD s)=true/\(sy s=true->Ew (kS s)=true/\(kS s).all (·==48)=false):=by
 unfold cN at h;by_cases h1:(s.length:Int)>L
 ·rw[if_pos h1]at h;omega
 rw[if_neg h1]at h;by_cases h2:Ew (oD s)=false∨(sy s=true/\Ew (kS s)=false)
 ·rw[if_pos h2]at h;omega
 rw[if_neg h2]at h;by_cases h3:sy s=true/\(kS s).all (·==48)=true
 ·rw[if_pos h3]at h;omega
 have h4:¬Ew (oD s)=false:=fun e=>h2 (.inl e)
 refine⟨by omega,by simpa using h4,fun hf=>?_⟩;have h5:¬Ew (kS s)=false:=fun e=>h2 (.inr ⟨hf,e⟩)
 have h6:¬(kS s).all (·==48)=true:=fun e=>h3 ⟨hf,e⟩
 exact⟨by simpa using h5,by simpa using h6⟩
theorem B5{L:Int}{s:List UInt8}(hL:L<=65536)(h:cN L s=0):Bq 262145 (fh s):=by
 obtain⟨h1,h2,h3⟩:=Yf h;have hn:(pN s).natAbs<2^262145:=by
  have:=El (uY h2).1 (aNm (Fc s) (show s.length<=65536 by omega))
  have h5:=kZ this (show 4*65536<=262145 by omega);generalize 2^262145=P at*;unfold pN
  split<;>omega
 unfold fh;by_cases hf:sy s=true
 ·rw[if_pos hf];obtain⟨h4,h5⟩:=h3 hf;have hd:=PZ (uY h4).1 h5;have tz:=kZ (El (uY h4).1 (aNm (Ga s) (show s.length<=65536 by omega))) (show 4*65536<=262145 by omega);refine Bq.divInt ?_ hn ?_
  ·show((dv 0 (kS s):Nat):Int)≠0
   omega
  ·rw[Int.natAbs_natCast];exact tz
 ·rw[if_neg hf];exact Bq.int hn (by omega)
theorem BZ{L:Int}{s0 s1 s2:List UInt8}(hL:L<=65536):BV 262145 (cT L s0 s1 s2):=by
 unfold cT;by_cases h:kQ L s0 s1 s2=0
 ·rw[if_pos h];unfold kQ at h;by_cases h0:cN L s0≠0
  ·rw[if_pos h0]at h;exact absurd h h0
  rw[if_neg h0]at h;by_cases h1:cN L s1≠0
  ·rw[if_pos h1]at h;exact absurd h h1
  rw[if_neg h1]at h;exact⟨B5 hL (by simpa using h0),B5 hL (by simpa using h1),B5 hL h⟩
 ·rw[if_neg h];exact bv0.mono (by omega)
theorem DP{has:Bool}{s0 s1 s2:List UInt8}:BV 262145 (cU has s0 s1 s2):=by
 unfold cU
 split
 ·exact BZ (by omega)
 ·exact bv0.mono (by omega)
def jB(pi:Bool)(h:List UInt8):Int:=if pi=false then(if h=[]then 0 else 3)else if cN 65536 h=0/\fh h=0 then 3 else cN 65536 h
def su(di po pi:Bool)(a0 a1 a2 b0 b1 b2 h:List UInt8):Int:=
 if dM di a0 a1 a2≠0 then dM di a0 a1 a2 else
 if di=true/\(cU di a0 a1 a2=v0∨eM (cU di a0 a1 a2)≠cU di a0 a1 a2)then 3 else
 if dM po b0 b1 b2≠0 then dM po b0 b1 b2 else
 if di=true/\po=true/\mu (cU di a0 a1 a2) (cU po b0 b1 b2)≠0 then 3 else jB pi h
def bO(k d:Int)(cl:Bool)(a0 a1 a2 b0 b1 b2 h:List UInt8):AV:=.agg [.int .i64 k,.int .i64 d,.bool cl,.str a0,.str a1,.str a2,.str b0,.str b1,.str b2,.str h]
theorem UL{k d:Int}{cl di po pi:Bool}{nm a0 a1 a2 b0 b1 b2 h:List UInt8}(hk:0<=k/\k<=8)(h8:k≠8)(h7:k=7->cl=true)(hkv:yY k=.agg [.str nm,.int .i64 d,.bool di,.bool po,.bool pi])
  (vI:a0.length<=4611686018427387904) (vH:a1.length<=4611686018427387904) (vG:a2.length<=4611686018427387904) (wS:b0.length<=4611686018427387904) (wk:b1.length<=4611686018427387904) (wh:b2.length<=4611686018427387904) (lh:h.length<=4611686018427387904):
  aP E 15 [bO k d cl a0 a1 a2 b0 b1 b2 h]=some (.int .i64 (su di po pi a0 a1 a2 b0 b1 b2 h)):=by
 refine dX ?_;have hf:=sE (E:=E);have tF:=fun H=>sN (E:=E) (H:=H) (z:=k)
 simp only[if_pos hk,hkv]at tF;have e8:(k !=8)=true:=bne_iff_ne.2 h8;have og:(k==8)=false:=beq_eq_false_iff_ne.2 h8;have dd:(d !=d)=false:=by simp
 obtain⟨f1,lM,Qr⟩:=uy (E:=E) (has:=di) vI vH vG;obtain⟨f2,n9,if2⟩:=uy (E:=E) (has:=po) wS wk wh;have ZZ:=DP (has:=di) (s0:=a0) (s1:=a1) (s2:=a2);have bf2:=DP (has:=po) (s0:=b0) (s1:=b1) (s2:=b2);obtain⟨jo,ji,jr,jh,kf,jY,kj,j6,kh,j7,ke,j8,rfl,-,-,-,X1,X2⟩:=bM Qr;obtain⟨kV,k7,kW,k6,lH,lK,lG,lI,lE,lL,lC,lF,rfl,-,-,-,Y1,Y2⟩:=bM if2;have hz:=gH (E:=E) Qr ZZ (by omega);refine nY akt ?_;intro ts hl g0;unfold bO at g0;unfold c15 su;generalize dM di a0 a1 a2=c1 at*;generalize dM po b0 b1 b2=c2 at*;have e7:(k==7)=true/\cl=true∨(k==7)=false:=by
  by_cases h:k=7
  ·exact .inl ⟨by rw[h];rfl,h7 h⟩
  ·exact .inr (beq_eq_false_iff_ne.2 h)
 have zj:fS (.tO DC uN)=[]:=rfl;obtain⟨rd,qh,ird⟩:=mZ (E:=E) lh;have mE:=gz (E:=E) ird;obtain⟨rn0,rm0,rn1,rm1,_,_,rfl,-,-,-,-⟩:=bX ird;have RM:=aW _ ird;have hT:∀x:Bool,x=true->x≠false:=by decide
 rcases e7 with⟨e7,rfl⟩|e7
 all_goals
  by_cases vL:c1=0
  rotate_left
  ·have aim:(c1 !=0)=true:=bne_iff_ne.2 vL
   simp(maxSteps:=2000000)only[↓aN,aO,↓aQ,aJ,↓reduceIte,aa,ah,ae,Tryz.f15,ai,aj,aj,hl,g0,hf,tF,e8,og,dd,e7,lM,X2,zj,aim]
   rw[if_pos vL]
  subst vL;rw[if_neg (by simp)];have jn:(di=true->cU di a0 a1 a2≠v0/\eM (cU di a0 a1 a2)=cU di a0 a1 a2)->¬(di=true/\(cU di a0 a1 a2=v0∨eM (cU di a0 a1 a2)≠cU di a0 a1 a2)):=by
   intro h1 h2;rcases h2.2 with h3|h3
   ·exact(h1 h2.1).1 h3
   ·exact h3 (h1 h2.1).2
  cases di with
  |false=>
   by_cases uk:c2=0
   rotate_left
   ·have Qp:(c2 !=0)=true:=bne_iff_ne.2 uk
    simp(maxSteps:=2000000)only[↓aN,aO,↓aQ,aJ,↓reduceIte,aa,ah,ae,Tryz.f15,ai,aj,aE,aj,hl,g0,hf,tF,e8,og,dd,e7,lM,X2,zj,n9,Y2,Qp]
    simp[uk]
   subst uk;cases pi with
   |false=>
    by_cases pY:h=[]
    ·have vP:(h==[])=true:=by rw[pY];rfl
     simp(maxSteps:=2000000)only[↓aN,aO,↓aQ,aJ,↓reduceIte,aa,ah,ae,Tryz.f15,ai,aj,aE,aj,hl,g0,hf,tF,e8,og,dd,e7,lM,X2,zj,n9,Y2,dV,vP]
     simp[jB,pY]
    ·have vP:(h==[])=false:=beq_eq_false_iff_ne.2 pY
     simp(maxSteps:=2000000)only[↓aN,aO,↓aQ,aJ,↓reduceIte,aa,ah,ae,Tryz.f15,ai,aj,aE,aj,hl,g0,hf,tF,e8,og,dd,e7,lM,X2,zj,n9,Y2,dV,vP]
     simp[jB,pY]
   |true=>
    by_cases pX:cN 65536 h=0
    ·rw[pX]at qh;rw[if_pos pX]at mE;have sH:=qy (fh h);by_cases uF:fh h=0
     ·rw[b8 uF]at sH
      simp(maxSteps:=2000000)only[↓aN,aO,↓aQ,aJ,↓reduceIte,aa,ah,ae,Tryz.f15,ai,aj,aE,aj,hl,g0,hf,tF,e8,og,dd,e7,lM,X2,zj,n9,Y2,qh,RM,mE,sH]
      simp[jB,pX,uF]
     ·rw[cg uF]at sH
      simp(maxSteps:=2000000)only[↓aN,aO,↓aQ,aJ,↓reduceIte,aa,ah,ae,Tryz.f15,ai,aj,aE,aj,hl,g0,hf,tF,e8,og,dd,e7,lM,X2,zj,n9,Y2,qh,RM,mE,sH]
      simp[jB,pX,uF]
    ·have Lf:(cN 65536 h==0)=false:=beq_eq_false_iff_ne.2 pX
     simp(maxSteps:=2000000)only[↓aN,aO,↓aQ,aJ,↓reduceIte,aa,ah,ae,Tryz.f15,ai,aj,aE,aj,hl,g0,hf,tF,e8,og,dd,e7,lM,X2,zj,n9,Y2,qh,RM,Lf]
     simp[jB,pX]
  |true=>
   by_cases nM:cU true a0 a1 a2=v0
   ·rw[b8 nM]at hz
    simp(maxSteps:=2000000)only[↓aN,aO,↓aQ,aJ,↓reduceIte,aa,ah,ae,Tryz.f15,ai,aj,aE,aj,hl,g0,hf,tF,e8,og,dd,e7,lM,X1,X2,zj,hz]
    simp[nM]
   rw[cg nM]at hz;obtain⟨ln,n8,iln⟩:=tV (E:=E) Qr ZZ (by omega) nM;have heq:=DD (E:=E) iln Qr (qV ZZ nM) ZZ (by omega);have BC:=ja iln;by_cases hle:eM (cU true a0 a1 a2)=cU true a0 a1 a2
   rotate_left
   ·rw[cg hle]at heq
    simp(maxSteps:=2000000)only[↓aN,aO,↓aQ,aJ,↓reduceIte,aa,ah,ae,Tryz.f15,ai,aj,aE,aj,hl,g0,hf,tF,e8,og,dd,e7,lM,X1,X2,zj,hz,n8,BC,heq]
    simp[nM,hle]
   rw[b8 hle]at heq;by_cases uk:c2=0
   rotate_left
   ·have Qp:(c2 !=0)=true:=bne_iff_ne.2 uk
    simp(maxSteps:=2000000)only[↓aN,aO,↓aQ,aJ,↓reduceIte,aa,ah,ae,Tryz.f15,ai,aj,aE,aj,hl,g0,hf,tF,e8,og,dd,e7,lM,X1,X2,zj,hz,n8,BC,heq,n9,Y2,Qp]
    simp[nM,hle,uk]
   subst uk;cases po with
   |false=>
    cases pi with
    |false=>
     by_cases pY:h=[]
     ·have vP:(h==[])=true:=by rw[pY];rfl
      simp(maxSteps:=2000000)only[↓aN,aO,↓aQ,aJ,↓reduceIte,aa,ah,ae,Tryz.f15,ai,aj,aE,aj,hl,g0,hf,tF,e8,og,dd,e7,lM,X1,X2,zj,hz,n8,BC,heq,n9,Y2,dV,vP]
      simp[jB,nM,hle,pY]
     ·have vP:(h==[])=false:=beq_eq_false_iff_ne.2 pY
      simp(maxSteps:=2000000)only[↓aN,aO,↓aQ,aJ,↓reduceIte,aa,ah,ae,Tryz.f15,ai,aj,aE,aj,hl,g0,hf,tF,e8,og,dd,e7,lM,X1,X2,zj,hz,n8,BC,heq,n9,Y2,dV,vP]
      simp[jB,nM,hle,pY]
    |true=>
     by_cases pX:cN 65536 h=0
     ·rw[pX]at qh;rw[if_pos pX]at mE;have sH:=qy (fh h);by_cases uF:fh h=0
      ·rw[b8 uF]at sH
       simp(maxSteps:=2000000)only[↓aN,aO,↓aQ,aJ,↓reduceIte,aa,ah,ae,Tryz.f15,ai,aj,aE,aj,hl,g0,hf,tF,e8,og,dd,e7,lM,X1,X2,zj,hz,n8,BC,heq,n9,Y2,qh,RM,mE,sH]
       simp[jB,nM,hle,pX,uF]
      ·rw[cg uF]at sH
       simp(maxSteps:=2000000)only[↓aN,aO,↓aQ,aJ,↓reduceIte,aa,ah,ae,Tryz.f15,ai,aj,aE,aj,hl,g0,hf,tF,e8,og,dd,e7,lM,X1,X2,zj,hz,n8,BC,heq,n9,Y2,qh,RM,mE,sH]
       simp[jB,nM,hle,pX,uF]
     ·have Lf:(cN 65536 h==0)=false:=beq_eq_false_iff_ne.2 pX
      simp(maxSteps:=2000000)only[↓aN,aO,↓aQ,aJ,↓reduceIte,aa,ah,ae,Tryz.f15,ai,aj,aE,aj,hl,g0,hf,tF,e8,og,dd,e7,lM,X1,X2,zj,hz,n8,BC,heq,n9,Y2,qh,RM,Lf]
      simp[jB,nM,hle,pX]
   |true=>
    obtain⟨dt,Uj,idt⟩:=rJ (E:=E) Qr if2 ZZ bf2 (by omega);have Up:=jg idt;have TT:=gz (E:=E) idt;have xt:=uD (mu (cU true a0 a1 a2) (cU true b0 b1 b2));by_cases UI:mu (cU true a0 a1 a2) (cU true b0 b1 b2)=0
    rotate_left
    ·rw[cg UI]at xt
     simp(maxSteps:=2000000)only[↓aN,aO,↓aQ,aJ,↓reduceIte,aa,ah,ae,Tryz.f15,ai,aj,aE,aj,hl,g0,hf,tF,e8,og,dd,e7,lM,X1,X2,zj,hz,n8,BC,heq,n9,Y1,Y2,Uj,Up,TT,xt]
     simp[nM,hle,UI]
    rw[b8 UI]at xt;cases pi with
    |false=>
     by_cases pY:h=[]
     ·have vP:(h==[])=true:=by rw[pY];rfl
      simp(maxSteps:=2000000)only[↓aN,aO,↓aQ,aJ,↓reduceIte,aa,ah,ae,Tryz.f15,ai,aj,aE,aj,hl,g0,hf,tF,e8,og,dd,e7,lM,X1,X2,zj,hz,n8,BC,heq,Uj,Up,TT,xt,n9,Y1,Y2,dV,vP]
      simp[jB,nM,hle,UI,pY]
     ·have vP:(h==[])=false:=beq_eq_false_iff_ne.2 pY
      simp(maxSteps:=2000000)only[↓aN,aO,↓aQ,aJ,↓reduceIte,aa,ah,ae,Tryz.f15,ai,aj,aE,aj,hl,g0,hf,tF,e8,og,dd,e7,lM,X1,X2,zj,hz,n8,BC,heq,Uj,Up,TT,xt,n9,Y1,Y2,dV,vP]
      simp[jB,nM,hle,UI,pY]
    |true=>
     by_cases pX:cN 65536 h=0
     ·rw[pX]at qh;rw[if_pos pX]at mE;have sH:=qy (fh h);by_cases uF:fh h=0
      ·rw[b8 uF]at sH
       simp(maxSteps:=2000000)only[↓aN,aO,↓aQ,aJ,↓reduceIte,aa,ah,ae,Tryz.f15,ai,aj,aE,aj,hl,g0,hf,tF,e8,og,dd,e7,lM,X1,X2,zj,hz,n8,BC,heq,Uj,Up,TT,xt,n9,Y1,Y2,qh,RM,mE,sH]
       simp[jB,nM,hle,UI,pX,uF]
      ·rw[cg uF]at sH
       simp(maxSteps:=2000000)only[↓aN,aO,↓aQ,aJ,↓reduceIte,aa,ah,ae,Tryz.f15,ai,aj,aE,aj,hl,g0,hf,tF,e8,og,dd,e7,lM,X1,X2,zj,hz,n8,BC,heq,Uj,Up,TT,xt,n9,Y1,Y2,qh,RM,mE,sH]
       simp[jB,nM,hle,UI,pX,uF]
     ·have Lf:(cN 65536 h==0)=false:=beq_eq_false_iff_ne.2 pX
      simp(maxSteps:=2000000)only[↓aN,aO,↓aQ,aJ,↓reduceIte,aa,ah,ae,Tryz.f15,ai,aj,aE,aj,hl,g0,hf,tF,e8,og,dd,e7,lM,X1,X2,zj,hz,n8,BC,heq,Uj,Up,TT,xt,n9,Y1,Y2,qh,RM,Lf]
      simp[jB,nM,hle,UI,pX]
theorem Nk{d:Int}{cl:Bool}{a0 a1 a2 b0 b1 b2 h:List UInt8}(vM:2<=d)(tz:d<=5)
  (vI:a0.length<=4611686018427387904) (vH:a1.length<=4611686018427387904) (vG:a2.length<=4611686018427387904) (wS:b0.length<=4611686018427387904) (wk:b1.length<=4611686018427387904) (wh:b2.length<=4611686018427387904):
  aP E 15 [bO 8 d cl a0 a1 a2 b0 b1 b2 h]=some (.int .i64 (su false false false a0 a1 a2 b0 b1 b2 h)):=by
 refine dX ?_;have hf:=sE (E:=E);have tF:=fun H=>sN (E:=E) (H:=H) (z:=8)
 have hkv:yY 8=.agg [.str [111,116,104,101,114],.int .i64 0,.bool false,.bool false,.bool false]:=rfl;rw[if_pos (by omega)]at tF;simp only[hkv]at tF;have c1:decide (d<2)=false:=cg (by omega);have c2:decide (d>5)=false:=cg (by omega);have zj:fS (.tO DC uN)=[]:=rfl;obtain⟨f1,lM,Qr⟩:=uy (E:=E) (has:=false) vI vH vG;obtain⟨f2,n9,if2⟩:=uy (E:=E) (has:=false) wS wk wh;obtain⟨jo,ji,jr,jh,kf,jY,kj,j6,kh,j7,ke,j8,rfl,-,-,-,X1,X2⟩:=bM Qr;obtain⟨kV,k7,kW,k6,lH,lK,lG,lI,lE,lL,lC,lF,rfl,-,-,-,Y1,Y2⟩:=bM if2;refine nY akt ?_;intro ts hl g0;unfold bO at g0;unfold c15 su;generalize dM false a0 a1 a2=k1 at*;generalize dM false b0 b1 b2=k2 at*;by_cases hk1:k1=0
 rotate_left
 ·have axB:(k1 !=0)=true:=bne_iff_ne.2 hk1
  simp(maxSteps:=2000000)only[↓aN,aO,↓aQ,aJ,↓reduceIte,aa,ah,ae,Tryz.f15,ai,aj,aD,aE,aj,hl,g0,hf,tF,c1,c2,lM,X2,zj,axB]
  simp[hk1]
 subst hk1;by_cases Lk:k2=0
 rotate_left
 ·have axO:(k2 !=0)=true:=bne_iff_ne.2 Lk
  simp(maxSteps:=2000000)only[↓aN,aO,↓aQ,aJ,↓reduceIte,aa,ah,ae,Tryz.f15,ai,aj,aD,aE,aj,hl,g0,hf,tF,c1,c2,lM,X2,zj,n9,Y2,axO]
  simp[Lk]
 subst Lk;by_cases pY:h=[]
 ·have vP:(h==[])=true:=by rw[pY];rfl
  simp(maxSteps:=2000000)only[↓aN,aO,↓aQ,aJ,↓reduceIte,aa,ah,ae,Tryz.f15,ai,aj,aD,aE,aj,hl,g0,hf,tF,c1,c2,lM,X2,zj,n9,Y2,dV,vP]
  simp[jB,pY]
 ·have vP:(h==[])=false:=beq_eq_false_iff_ne.2 pY
  simp(maxSteps:=2000000)only[↓aN,aO,↓aQ,aJ,↓reduceIte,aa,ah,ae,Tryz.f15,ai,aj,aD,aE,aj,hl,g0,hf,tF,c1,c2,lM,X2,zj,n9,Y2,dV,vP]
  simp[jB,pY]
def BS(k:Int):Int:=match yY k with|.agg [_,.int _ d,_,_,_]=>d|_=>0
def Rv(k:Int):Bool:=match yY k with|.agg [_,_,.bool d,_,_]=>d|_=>false
def TC(k:Int):Bool:=match yY k with|.agg [_,_,_,.bool d,_]=>d|_=>false
def Zj(k:Int):Bool:=match yY k with|.agg [_,_,_,_,.bool d]=>d|_=>false
def qS(k d:Int)(cl:Bool)(a0 a1 a2 b0 b1 b2 h:List UInt8):Int:=
 if¬(0<=k/\k<=8)then 12 else
 if(k≠8/\d≠BS k)∨(k=8/\(d<2∨d>5))then 2 else
 if k=7/\cl=false then 3 else su (Rv k) (TC k) (Zj k) a0 a1 a2 b0 b1 b2 h
theorem kA{k d:Int}{cl:Bool}{a0 a1 a2 b0 b1 b2 h:List UInt8}
  (vI:a0.length<=4611686018427387904) (vH:a1.length<=4611686018427387904) (vG:a2.length<=4611686018427387904) (wS:b0.length<=4611686018427387904) (wk:b1.length<=4611686018427387904) (wh:b2.length<=4611686018427387904) (lh:h.length<=4611686018427387904):
  aP E 15 [bO k d cl a0 a1 a2 b0 b1 b2 h]=some (.int .i64 (qS k d cl a0 a1 a2 b0 b1 b2 h)):=by
 by_cases N6:(0<=k/\k<=8)/\¬((k≠8/\d≠BS k)∨(k=8/\(d<2∨d>5)))/\¬(k=7/\cl=false)
 ·obtain⟨hk,Jv,h7⟩:=N6;have hc:qS k d cl a0 a1 a2 b0 b1 b2 h=su (Rv k) (TC k) (Zj k) a0 a1 a2 b0 b1 b2 h:=by unfold qS;rw[if_neg (by simpa using hk),if_neg Jv,if_neg h7]
  rw[hc];by_cases h8:k=8
  ·subst h8;exact Nk (E:=E) (by omega) (by omega) vI vH vG wS wk wh
  ·obtain⟨nm,dg,di,po,pi,e⟩:=KZ hk;have e1:BS k=dg:=by unfold BS;rw[e]
   have e2:Rv k=di:=by unfold Rv;rw[e]
   have e3:TC k=po:=by unfold TC;rw[e]
   have e4:Zj k=pi:=by unfold Zj;rw[e]
   have hd:d=dg:=by
    by_cases x:d=dg
    ·exact x
    ·exact absurd (.inl ⟨h8,by rw[e1];exact x⟩) Jv
   subst hd;rw[e2,e3,e4];refine UL (E:=E) hk h8 (fun x=>?_) e vI vH vG wS wk wh lh;cases cl with
   |true=>rfl
   |false=>exact absurd ⟨x,rfl⟩ h7
 refine dX ?_;have hf:=sE (E:=E);have tF:=fun H=>sN (E:=E) (H:=H) (z:=k)
 have zj:fS (.tO DC uN)=[]:=rfl;refine nY akt ?_;intro ts hl g0;unfold bO at g0;unfold c15 qS;by_cases hk:0<=k/\k<=8
 rotate_left
 ·rw[if_pos hk];simp only[if_neg hk,ab]at tF
  simp(maxSteps:=2000000)only[↓aN,aO,↓aQ,aJ,↓reduceIte,aa,ah,ae,Tryz.f15,aj,aj,hl,g0,hf,tF,zj]
 rw[if_neg (by simpa using hk)];obtain⟨nm,dg,di,po,pi,e⟩:=KZ hk;have e1:BS k=dg:=by unfold BS;rw[e]
 simp only[if_pos hk,e]at tF;by_cases h8:k=8
 ·subst h8;by_cases tz:d<2
  ·have c1:decide (d<2)=true:=b8 tz
   simp(maxSteps:=2000000)only[↓aN,aO,↓aQ,aJ,↓reduceIte,aa,ah,ae,Tryz.f15,aj,aE,aF,aj,hl,g0,hf,tF,zj,c1]
   simp[tz]
  ·have c1:decide (d<2)=false:=cg tz;have hd5:d>5:=by
    by_cases x:d>5
    ·exact x
    ·exact absurd ⟨hk,by omega,by omega⟩ N6
   have c2:decide (d>5)=true:=b8 hd5
   simp(maxSteps:=2000000)only[↓aN,aO,↓aQ,aJ,↓reduceIte,aa,ah,ae,Tryz.f15,aj,aE,aF,aj,hl,g0,hf,tF,zj,c1,c2]
   simp[hd5]
 ·have e8:(k !=8)=true:=bne_iff_ne.2 h8;have og:(k==8)=false:=beq_eq_false_iff_ne.2 h8;by_cases Jv:d=dg
  ·subst Jv;have h7:k=7/\cl=false:=by
    by_cases x:k=7/\cl=false
    ·exact x
    ·exact absurd ⟨hk,by rw[e1];omega,x⟩ N6
   obtain⟨rfl,rfl⟩:=h7;have dd:(d !=d)=false:=by simp
   simp(maxSteps:=2000000)only[↓aN,aO,↓aQ,aJ,↓reduceIte,aa,ah,ae,Tryz.f15,aj,aF,aj,hl,g0,hf,tF,zj,e8,og,dd]
   simp[e1]
  ·have dd:(d !=dg)=true:=bne_iff_ne.2 Jv
   simp(maxSteps:=2000000)only[↓aN,aO,↓aQ,aJ,↓reduceIte,aa,ah,ae,Tryz.f15,aj,aj,hl,g0,hf,tF,zj,e8,dd]
   rw[if_pos (.inl ⟨h8,by rw[e1];exact Jv⟩)]
end Go.Proofs.YtblnjkjjedanaaaGreatDoor
