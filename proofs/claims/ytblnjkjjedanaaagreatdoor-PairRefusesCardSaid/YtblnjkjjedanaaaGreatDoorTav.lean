/- A part of the proof that PairRefuses returns true for every input; no condition of its own. -/
import Derived.Test.YtblnjkjjedanaaaGreatDoorTau
set_option linter.all false
set_option maxHeartbeats 100000000
set_option maxRecDepth 100000
open List renaming length_append->aMk,getElem?_append_left->aOB,zipWith->aU3,getD_eq_getElem?_getD->aSW,getElem?_set_self->aOc,length_set->aPp,append_assoc->aS1,length_singleton->aWX,length_replicate->aU5,getElem?_set_ne->aN9,getElem?_eq_getElem->aMh,getElem?_replicate->aWY,length_cons->aMn,eq_nil_of_length_eq_zero->aVC,length_zipWith->aU6,getElem?_set->aLq,length_range->aWZ,getElem?_cons_succ->aP2,length_map->aOT,all_cons->aOV,getElem_of_mem->aVB,take->aTa,getElem?_map->aNe,cons_append->aP4
open Option renaming getD_some->aNt,some->aLv,getD_none->aW3
open Int renaming natAbs_mul->aVS,reduceLE->an,reduceLT->ao,reduceToNat->aq,reduceGE->au,reduceAdd->aA,reduceNeg->aB,reduceBEq->aD
open Nat renaming add_assoc->aLt,min_self->aW0,reduceLT->aa,reduceEqDiff->ae,reduceAdd->ah,reduceLeDiff->ai,reduceMul->ak
open Bool renaming false_eq_true->aLs
namespace Go.Proofs.YtblnjkjjedanaaaGreatDoor
open Go Dv Dv.bV
variable{E:Env}[C:Ctx E]
def Wd(ws:List AV):Prop:=ws.length=16/\∀j,j<16->∃z,ws[j]?=some (.int .u64 z)
theorem wd0:Wd [.int .u64 0,.int .u64 0,.int .u64 0,.int .u64 0,.int .u64 0,.int .u64 0,.int .u64 0,.int .u64 0,.int .u64 0,.int .u64 0,.int .u64 0,.int .u64 0,.int .u64 0,.int .u64 0,.int .u64 0,.int .u64 0]:=by refine⟨rfl,fun j hj=>⟨0,?_⟩⟩;rw[show([.int .u64 0,.int .u64 0,.int .u64 0,.int .u64 0,.int .u64 0,.int .u64 0,.int .u64 0,.int .u64 0,.int .u64 0,.int .u64 0,.int .u64 0,.int .u64 0,.int .u64 0,.int .u64 0,.int .u64 0,.int .u64 0]:List AV)=List.replicate 16 (.int .u64 0)from rfl,aWY,if_pos hj]
theorem afL{ws:List AV}(h:Wd ws):∃z0 z1 z2 z3 z4 z5 z6 z7 z8 z9 TO TP z12 TQ TR TS:Int,ws=[.int .u64 z0,.int .u64 z1,.int .u64 z2,.int .u64 z3,.int .u64 z4,.int .u64 z5,.int .u64 z6,.int .u64 z7,.int .u64 z8,.int .u64 z9,.int .u64 TO,.int .u64 TP,.int .u64 z12,.int .u64 TQ,.int .u64 TR,.int .u64 TS]:=by
 have hl:=h.1;obtain⟨z0,e0⟩:=h.2 0 (by omega);obtain⟨z1,e1⟩:=h.2 1 (by omega);obtain⟨z2,e2⟩:=h.2 2 (by omega);obtain⟨z3,e3⟩:=h.2 3 (by omega);obtain⟨z4,e4⟩:=h.2 4 (by omega);obtain⟨z5,e5⟩:=h.2 5 (by omega);obtain⟨z6,e6⟩:=h.2 6 (by omega);obtain⟨z7,e7⟩:=h.2 7 (by omega);obtain⟨z8,e8⟩:=h.2 8 (by omega);obtain⟨z9,e9⟩:=h.2 9 (by omega);obtain⟨TO,e10⟩:=h.2 10 (by omega);obtain⟨TP,e11⟩:=h.2 11 (by omega);obtain⟨z12,e12⟩:=h.2 12 (by omega);obtain⟨TQ,e13⟩:=h.2 13 (by omega);obtain⟨TR,e14⟩:=h.2 14 (by omega);obtain⟨TS,e15⟩:=h.2 15 (by omega);refine⟨z0,z1,z2,z3,z4,z5,z6,z7,z8,z9,TO,TP,z12,TQ,TR,TS,?_⟩
 match ws,hl with
 |[w0,w1,w2,w3,w4,w5,w6,w7,w8,w9,w10,w11,w12,w13,w14,w15],_=>
  simp only[List.getElem?_cons_zero,aP2,aLv.injEq]at e0 e1 e2 e3 e4 e5 e6 e7 e8 e9 e10 e11 e12 e13 e14 e15;rw[e0,e1,e2,e3,e4,e5,e6,e7,e8,e9,e10,e11,e12,e13,e14,e15]
theorem XX{H0:Hp}{r:AV}{ws:List AV}{i:Nat}(hw:Wd ws)(hi:i<1024):
  ∃u H',cL E 133 [.b6 H0.length 1,.int .i64 (i:Int)] (H0++[.cells .live (r::ws)])=some (u,H')/\u=.tuple []/\∃ws',H'=H0++[.cells .live (r::ws')]/\Wd ws':=by
 have hi6:i/64<16:=by omega
 obtain⟨z,hz⟩:=hw.2 (i/64) hi6;have abg:∀c,dy E c .shr 3 (.int .i64 (i:Int)) (.int .u64 6)=some (.int .i64 ((i/64:Nat):Int)):=by
  intro c;have h1:((i:Int).fdiv (2^(min (6:Int).toNat IntKind.i64.bits)))=((i/64:Nat):Int):=by rw[show(2:Int)^(min (6:Int).toNat IntKind.i64.bits)=64 from by decide,Int.fdiv_eq_ediv_of_nonneg _ (by decide)];omega
  unfold dy;simp only[h1,if_neg (show¬(6:Int)<0 by decide)]
 obtain⟨s,M4,hand⟩:∃s:Int,0<=s/\∀c,dy E c .and 3 (.int .i64 (i:Int)) (.int .i64 63)=some (.int .i64 s):=by
  refine⟨(BitVec.ofInt 64 (i:Int)&&&BitVec.ofInt 64 63).toNat,by omega,fun c=>?_⟩;have hle:(BitVec.ofInt 64 (i:Int)&&&BitVec.ofInt 64 63).toNat<=63:=by rw[BitVec.toNat_and];exact Nat.and_le_right
  show some (AV.int .i64 (aV .i64 ((BitVec.ofInt 64 (i:Int)&&&BitVec.ofInt 64 63).toNat:Int)))=_
  rw[wrap_i64 (by omega) (by omega)]
 obtain⟨t,axI⟩:∃t:Int,∀c,dy E c .shl 154 (.int .u64 1) (.int .i64 s)=some (.int .u64 t):=by refine⟨aV .u64 (1*2^(min s.toNat IntKind.u64.bits)),fun c=>?_⟩;unfold dy;simp only[if_neg (show¬s<0 by omega)]
 obtain⟨w,hor⟩:∃w:Int,∀c,dy E c .or 154 (.int .u64 z) (.int .u64 t)=some (.int .u64 w):=⟨_,fun c=>rfl⟩;have c1:(((i/64:Nat):Int)<16)=True:=eq_true (by omega);have hzj:(r::ws)[1+i/64]?=some (.int .u64 z):=by rw[Nat.add_comm,aP2];exact hz
 have hwl:=hw.1;have R6:decide (1+(i/64+1)<=ws.length+1)=true:=cF (by omega);refine gi2 (by rw[C.ud]) (by rw[C.fn];exact amU) (by decide) ?_;intro ts hl g0 g1;unfold alK;simp only[↓aQ,aR,aK,dt,↓reduceIte,aa,ah,ae,Tryz.f133,hl,g0,g1,abg,hand,axI,hor,c1,hzj,R6,aLt,aS1,aMk];refine⟨rfl,aTa (i/64) ws++AV.int .u64 w::List.drop (i/64+1) ws,?_,?_,?_⟩
 ·rw[show 1+i/64=(i/64)+1 by omega,show 1+(i/64+1)=(i/64+1)+1 by omega,List.take_succ_cons,List.drop_succ_cons,aP4]
 ·rw[aMk,List.length_take,aMn,List.length_drop];omega
 ·intro j hj;have e:aTa (i/64) ws++AV.int .u64 w::List.drop (i/64+1) ws=ws.set (i/64) (.int .u64 w):=by rw[List.set_eq_take_append_cons_drop,if_pos (by omega)]
  rw[e,aLq];by_cases h:i/64=j
  ·rw[if_pos h,if_pos (by omega)];exact⟨w,rfl⟩
  ·rw[if_neg h];exact hw.2 j hj
theorem DX{a b:List Rat}:∀{n:Nat},eF a (aU3 (fun x _=> -x) b b) n= -eF a b n
 |0=>by simp only[eF];grind
 |n+1=>by
  have h1:=DX (a:=a) (b:=b) (n:=n);have h2:=qW (a:=b) (b:=b) (g:=fun x _=> -x) rfl (by grind) n;rw[eF,eF,h1,h2]
  grind
def sS(a:List Rat)(n:Nat)(line x:List Rat):List Rat:=aU3 (fun u v=>u*1+v*(-(eF a x n/eF a line n))) x line
def splitK(a:List Rat)(n:Nat)(line:List Rat)(rows:List (List Rat))(at':Nat):Nat->List (List Rat)
 |0=>[]
 |i+1=>if i=at' then splitK a n line rows at' i else splitK a n line rows at' i++[sS a n line (row rows i)]
theorem so{a:List Rat}{n:Nat}{line:List Rat}{rows:List (List Rat)}{at':Nat}:∀{i:Nat},(splitK a n line rows at' i).length=if i<=at' then i else i-1
 |0=>by simp[splitK]
 |i+1=>by
  rw[splitK]
  split
  ·rw[so];split<;>split<;>omega
  ·rw[aMk,so,aWX];split<;>split<;>omega
structure Dy(H0 H':Hp)(B n at' l:Nat)(U5:Int)(a:List Rat)(rows:List (List Rat)):Prop where
 ex:nK B H0 H'/\∃Lv rb P ws lq c,H'[B]?=some (.cells .live [Lv,.aI rb 0 1 17 1,.int .i64 U5])/\rb≠B/\rb<H'.length/\H'[rb]?=some (.cells .live (P::ws))/\Wd ws/\gy P (lq.map fun x=>x*c)/\0<c/\Bq (l+2*(n*l+1)) c/\BL l lq/\lq.length=n/\(lq=row rows at'∨lq=aU3 (fun x _=> -x) (row rows at') (row rows at'))/\(eF a lq n).num<0/\nX H' B n Lv (splitK a n lq rows at' rows.length)/\c=lN lq
theorem PE{H0:Hp}{B n N at':Nat}{U5:Int}{Lv rv:AV}{a:List Rat}{rows:List (List Rat)}(vG:B<H0.length)(hB:H0[B]?=some (.cells .live [Lv,.aH,.int .i64 U5]))(hL:nX H0 B n Lv rows)(tT:at'<rows.length)(hv:gy rv a)(ha:a.length=n)(hn:n<=8)(hR:rows.length<=1000){k l:Nat}(ba:BL k a)(bb:mR l rows)(hk:k+l<=500000)(dM:eF a (row rows at') n≠0)(hN:N<=1000):
  ∃r H',cL E 132 [.b6 B 0,rv,.int .i64 (at':Int),.int .i64 (N:Int)] H0=some (r,H')/\r=.tuple []/\Dy H0 H' B n at' l U5 a rows:=by
 obtain⟨h0,b,st,hs,rfl,hbB,V9,hb,fK,lJ,yJ⟩:=hL.resolve_left (fun h=>by rw[h.1]at tT;simp at tT);obtain⟨hx,hxl⟩:=yJ at' tT;obtain⟨ca,rfl,ra⟩:=hv;have c1:=fun l o=>kZ (T:=H0) (l:=l) (o:=o) vG
 have c2:=fun l o=>kZ (T:=H0) (l:=l) (o:=o) V9
 have c3:=fun o=>jM (o:=o) hB (by decide)
 have c4:=fun o=>jM (o:=o) hb fK
 have anY:((at':Int)<(rows.length:Int))=True:=eq_true (by omega);have F5:hs[at']?=some (hs.getD at' aX):=by rw[aSW,aMh (by omega)];rfl
 obtain⟨cx,bs,rx,pS,gf⟩:=hx.fz2;have aoo:=fun l=>(gf l).1
 have aop:=fun l=>(gf l).2
 have rvx:gy (.aJ cx (row rows at').length) (row rows at'):=⟨cx,rfl,rx⟩;have hva:gy (.aJ ca a.length) a:=⟨ca,rfl,ra⟩;obtain⟨p,hp,ip⟩:=xy (E:=E) hva rvx (by omega) (by omega) ba (bb at' tT) (by omega);rw[ha]at ip;obtain⟨Q9,Q7,Ra,Q8,_,_,rfl,-,-,-,-⟩:=bR ip;have P:=aU _ ip;obtain⟨HA,hma,hHA,hML,hBA,-⟩:=sM (bJ (AV.agg [.bool Q9,Q7,.bool Ra,Q8])) pS;rw[hB]at hBA;have awz:b<HA.length:=by omega
 have c1A:=fun l o=>kZ (T:=HA) (l:=l) (o:=o) (show B<HA.length by omega)
 have c2A:=fun l o=>kZ (T:=HA) (l:=l) (o:=o) awz
 have c3A:=fun o=>jM (o:=o) hBA (by decide)
 have sp:=jh (E:=E) ip;have pxo:b7 (hs.getD at' aX)=true:=by
  rcases hx with⟨cs,e,-⟩|⟨c,st,cs,e,-⟩<;>rw[e]<;>rfl
 have hxc:(hs.getD at' aX).cells=[hs.getD at' aX]:=E1 pxo;generalize hs.getD at' aX=x at*;have wH:=fun{dr st:Bool} {bl:List AV} {H:Hp} {k:AV->cJ->Prop}=>lu (E:=E) (dr:=dr) (st:=st) (f:=167) (bl:=bl) (H:=H) (k:=k) (cn C (by kernel_rfl))
 have hD:(eF a (row rows at') n).num≠0:=fun e=>dM (Rat.num_eq_zero.1 e)
 refine gi4 (by rw[C.ud]) (by rw[C.fn];exact amT) (by decide) ?_;intro ts hl g0 g1 g2 g3;unfold alJ;by_cases K4:0<(eF a (row rows at') n).num
 case' pos=>
  have tU:decide (xd (eF a (row rows at') n).num>0)=true:=by unfold xd;rw[if_neg hD,if_neg (by omega)];rfl
  have OA:=hx.mono hHA;obtain⟨cx2,CF,rx2,awD,ahQ⟩:=OA.fz2;have awW:=fun l=>(ahQ l).2
  obtain⟨HF,aoN,hHF,Oc,hBF,-⟩:=sM (H:=HA) false awD;simp only[aLs,if_false]at aoN;rw[hBA]at hBF;rw[hML]at Oc;have hHF:=hHA.trans hHF;have c1F:=fun l o=>kZ (T:=HF) (l:=l) (o:=o) (show B<HF.length by omega)
  have c3F:=fun o=>jM (o:=o) hBF (by decide)
  obtain⟨y,hy,iy⟩:=GG (E:=E) (v:=.aJ cx2 (row rows at').length) ⟨cx2,rfl,rx2⟩ (by omega);obtain⟨u,hu,iu⟩:=ru (E:=E) ip;obtain⟨un0,um0,un1,um1,_,_,rfl,-,-,-,-⟩:=bR iu;have U:=aU _ iu;obtain⟨cy,rfl,ry⟩:=id iy;simp only[↓aQ,aR,↓aT,aK,dt,↓reduceIte,aa,ah,ae,Tryz.f132,hl,g0,g1,g2,c1,c2,c3,c4,anY,F5,aoo,hma,hML,Oc,awW,aoN,hp,P,U,hy,hu,pxo,hxc,sp,tU,c1F,c3F,ug,aS1,aMk]
 case' neg=>
  have tU:decide (xd (eF a (row rows at') n).num>0)=false:=by unfold xd;rw[if_neg hD,if_pos (by omega)];rfl
  simp only[↓aQ,aR,↓aT,aK,dt,↓reduceIte,aa,ah,ae,Tryz.f132,hl,g0,g1,g2,c1,c2,c3,c4,anY,F5,aoo,hma,hML,hp,P,pxo,hxc,sp,tU,c1A,c3A,aS1,aMk]
 case' pos=>
  generalize hY:AV.aJ cy (aU3 (fun x x_1=> -x) (row rows at') (row rows at')).length=Y;generalize hPC:[AV.bool un0,um0,AV.bool un1,um1]=PC;obtain⟨lq,Eu⟩:∃lq,lq=aU3 (fun x _=> -x) (row rows at') (row rows at'):=⟨_,rfl⟩;obtain⟨pl,Oq⟩:∃pl,pl= -eF a (row rows at') n:=⟨_,rfl⟩;have hYr:qw H0 B Y lq:=by rw[<-hY,Eu];exact .inl ⟨cy,rfl,ry⟩
  have M1:lq.length=n:=by rw[Eu,aU6,hxl,aW0]
  have blq:BL l lq:=by intro q hq;rw[Eu,oE,List.mem_map]at hq;obtain⟨x,hx,rfl⟩:=hq;exact(bb at' tT x hx).neg
  have uy:cX (.agg PC) pl:=by rw[<-hPC,Oq];exact iu
  have Zo:eF a lq n=pl:=by rw[Eu,Oq,DX]
  have aa8:pl.num<0:=by rw[Oq,Rat.neg_num];omega
  have aoG:lq=row rows at'∨lq=aU3 (fun x _=> -x) (row rows at') (row rows at'):=.inr Eu;obtain⟨pc0,pc1,pc2,pc3,Sf⟩:∃a b c d,PC=[.bool a,b,.bool c,d]:=⟨_,_,_,_,hPC.symm⟩;have hPM:aN pc1=true/\b7 pc1=true/\aN pc3=true/\b7 pc3=true:=by subst Sf;exact aU _ uy
 case' neg=>
  generalize hY:x=Y;generalize hPC:[AV.bool Q9,Q7,AV.bool Ra,Q8]=PC;generalize HA=HF at*;obtain⟨lq,Eu⟩:∃lq,lq=row rows at':=⟨_,rfl⟩;obtain⟨pl,Oq⟩:∃pl,pl=eF a (row rows at') n:=⟨_,rfl⟩;have hYr:qw H0 B Y lq:=by rw[<-hY,Eu];exact hx
  have M1:lq.length=n:=by rw[Eu,hxl]
  have blq:BL l lq:=by rw[Eu];exact bb at' tT
  have uy:cX (.agg PC) pl:=by rw[<-hPC,Oq];exact ip
  have Zo:eF a lq n=pl:=by rw[Eu,Oq]
  have aa8:pl.num<0:=by rw[Oq];omega
  have aoG:lq=row rows at'∨lq=aU3 (fun x _=> -x) (row rows at') (row rows at'):=.inl Eu;have hHF:=hHA;have hBF:=hBA;have Oc:=hML;obtain⟨pc0,pc1,pc2,pc3,Sf⟩:∃a b c d,PC=[.bool a,b,.bool c,d]:=⟨_,_,_,_,hPC.symm⟩;have hPM:aN pc1=true/\b7 pc1=true/\aN pc3=true/\b7 pc3=true:=by subst Sf;exact aU _ uy
 all_goals
  obtain⟨TU,Oa⟩:∃TU,TU=HF++[cG.cells iH.live [AV.aJ ca a.length],cG.cells iH.live [Y],cG.cells iH.live PC]:=⟨_,rfl⟩;have T6:TU.length=H0.length+3:=by rw[Oa,aMk,Oc];rfl
  have q0:TU[H0.length]?=some (.cells .live [AV.aJ ca a.length]):=by rw[Oa,gk Oc];rfl
  have q1:TU[H0.length+1]?=some (.cells .live [Y]):=by rw[Oa,lL Oc];rfl
  have q2:TU[H0.length+2]?=some (.cells .live PC):=by rw[Oa,lL Oc];rfl
  have awg:nK B H0 TU:=hHF.trans (by rw[Oa];exact nK.app _);have hB3:TU[B]?=some (.cells .live [AV.aI b 0 rows.length 1 rows.length,AV.aH,AV.int IntKind.i64 U5]):=by rw[Oa,aOB (by omega)];exact hBF
  rw[<-Oa];refine fh (fun k_ ts H=>∃i v HC vr,k_=rows.length-i/\ts.length=108/\gt ts 0=.b6 B 0/\gt ts 2=.int .i64 (at':Int)/\gt ts 3=.int .i64 (N:Int)/\gt ts 8=.b6 (H0.length+1) 0/\gt ts 10=.func 167 [] [.b6 H0.length 0,.b6 (H0.length+2) 0,.b6 (H0.length+1) 0]/\gt ts 11=v/\gt ts 39=.aI b 0 rows.length 1 rows.length/\gt ts 40=.int .i64 (rows.length:Int)/\gt ts 41=.int .i64 (i:Int)/\H=HC/\(i<=rows.length)/\(nK B TU HC)/\(HC[B]?=TU[B]?)/\(u7 1 (H0.length+3) v HC (splitK a n lq rows at' i).length vr)/\(vr.length=(splitK a n lq rows at' i).length/\∀j,j<vr.length->gy (vr.getD j aX) (row (splitK a n lq rows at' i) j)/\(row (splitK a n lq rows at' i) j).length=n)) (rows.length) ?_ ?_
  rotate_left
  ·refine⟨0,.aH,TU,[],(by first|omega|rfl|(simp;done)),(by simp only[cK,hl]),?_⟩;simp only[cM,hl,aa,ae,g0,g2,g3]
   iterate 10 refine⟨by first|trivial|rfl|(congr 1;omega)|(simp;done)|(simp;omega),?_⟩
   refine⟨?_,?_,?_,?_,?_⟩
   ·omega
   ·exact nK.refl
   ·trivial
   ·exact .inl ⟨rfl,rfl,rfl⟩
   ·exact⟨rfl,by simp⟩
  clear hl g0 g1 g2 g3 ts;rintro k_ ts H ⟨i,v,HC,vr,rfl,hl,g0,g2,g3,g8,g10,g11,g39,g40,g41,rfl,hi,V2,hBC,vL,Ez⟩;refine VS ?_;have hlC:H0.length+3<=H.length:=by have:=V2.1;omega
  obtain⟨st0,d0,e0⟩:=V2.2 H0.length _ _ (by omega) q0 (by decide);obtain⟨st1,d1,e1⟩:=V2.2 (H0.length+1) _ _ (by omega) q1 (by decide);obtain⟨st2,d2,e2⟩:=V2.2 (H0.length+2) _ _ (by omega) q2 (by decide);have hLe:nK B H0 H:=awg.trans V2;obtain⟨stb,db,eb⟩:=hLe.2 b _ _ (by omega) hb fK;have cb:=fun o=>jM (o:=o) eb db
  have iE:=so (a:=a) (n:=n) (line:=lq) (rows:=rows) (at':=at') (i:=i);have aFQ:(splitK a n lq rows at' i).length<=i:=by rw[iE];split<;>omega
  by_cases hd:i<rows.length
  ·have dc:decide ((i:Int)<(rows.length:Int))=true:=cF (by omega);have oF:((i:Int)<(rows.length:Int))=True:=eq_true (by omega);have w1:aV .i64 ((i:Int)+1)=((i+1:Nat):Int):=by rw[wrap_i64 (by omega) (by omega)];omega
   obtain⟨G7,ax8⟩:=yJ i hd;have hgi:hs[i]?=some (hs.getD i aX):=by rw[aSW,aMh (by omega)];rfl
   by_cases uM:i=at'
   ·have ah4:((i:Int)!=(at':Int))=false:=by rw[uM];simp
    have hsk:splitK a n lq rows at' (i+1)=splitK a n lq rows at' i:=by rw[splitK,if_pos uM]
    simp only[↓aQ,aR,aK,↓reduceIte,aa,ae,hl,g2,g39,g40,g41,oF,w1,cb,hgi,ah4];refine dO ?_;refine⟨_,?_,i+1,v,H,vr,rfl,(by simp only[cK,hl]),?_⟩
    ·first|omega|(simp;omega)
    simp only[cM,hl,aa,ae,g0,g2,g3,g8,g10,g11,g39,g40]
    iterate 10 refine⟨by first|trivial|rfl|(congr 1;omega)|(simp;done)|(simp;omega),?_⟩
    refine⟨?_,?_,?_,?_,?_⟩
    ·omega
    ·exact V2
    ·exact hBC
    ·rw[hsk];exact vL
    ·rw[hsk];exact Ez
   ·have ah4:((i:Int)!=(at':Int))=true:=by rw[bne_iff_ne];omega
    have hsk:splitK a n lq rows at' (i+1)=splitK a n lq rows at' i++[sS a n lq (row rows i)]:=by rw[splitK,if_neg uM]
    obtain⟨ci,bi,fi,ri,hbi⟩:=G7.fzm hLe 38;obtain⟨cY,bY,fY,rY,hbY⟩:=hYr.fzm hLe 37;have hpf:∀v∈PC,Flat v:=by rw[Sf]at uy⊢;exact(iZ.cons uy .nil).flat
    have gf:=VN fi e0 d0 (show Dv.fz H 39 (AV.aJ ca a.length)=some (.aJ ca a.length,[])from rfl) e2 d2 hpf e1 d1 fY;have ao5:=uy;rw[Sf]at ao5;have ao6:pl≠0:=fun e=>by rw[e]at aa8;exact absurd aa8 (by decide)
    have bpl:Bq (n*(k+l+1)+1) pl:=by rw[<-Zo,<-ha];exact xz ba blq (by omega) (Nat.le_refl _)
    have hnk:n*(k+l+1)<=8*500001:=Nat.mul_le_mul hn (by omega);obtain⟨r,hr,ir⟩:=Mr (E:=E) hva (u:=.aJ ci (row rows i).length) (w:=.aJ cY lq.length) (b:=row rows i) (d:=lq) ⟨ci,rfl,ri⟩ ⟨cY,rfl,rY⟩ ao5 (by omega) (by omega) (by omega) (k:=k+l) (fun q hq=>(ba q hq).mono (by omega)) (fun q hq=>(bb i hd q hq).mono (by omega)) (fun q hq=>(blq q hq).mono (by omega)) bpl ao6 (by omega) (by omega);rw[ha,<-Zo]at ir;obtain⟨cr,rfl,rr⟩:=ir;rw[<-Sf]at hr;have J2:(cJ.marks (bi++(H0.length::[]++((H0.length+2)::[]++((H0.length+1)::bY))))).app H=Dv.mark H (bi++(H0.length::[]++((H0.length+2)::[]++((H0.length+1)::bY)))):=rfl;have ahH:∀x∈(bi++(H0.length::[]++((H0.length+2)::[]++((H0.length+1)::bY)))),x<H0.length+3/\B<x:=by
     intro x hx;simp only[List.mem_append,List.mem_cons,List.not_mem_nil,or_false]at hx;rcases hx with hx|hx|hx|hx|hx
     ·have:=hbi x hx;omega
     ·omega
     ·omega
     ·omega
     ·have:=hbY x hx;omega
    generalize(bi++(H0.length::[]++((H0.length+2)::[]++((H0.length+1)::bY))))=RH at*;have abj:=Ut vL (fun b hb=>(ahH b hb).1);have hLD:nK B H (Dv.mark H RH):=nK.mark RH (fun b hb=>(ahH b hb).2);have hBD:(Dv.mark H RH)[B]?=H[B]?:=ub (fun h=>by have:=(ahH B h).2;omega);have hlD:(Dv.mark H RH).length=H.length:=k6 _ _;generalize Dv.mark H RH=HD at*;obtain⟨bM,H2,gT,uJ,t1,t2,t3⟩:=jR (E:=E) (H:=HD) (x:=[.aJ cr (aU3 (fun x y:Rat=>x*1+y*(-(eF a (row rows i) n/eF a lq n))) (row rows i) lq).length]) By (by decide) (zh abj) (by omega) rfl rfl (by unfold gq;omega) (by omega);have pS:∀aM,aW E aM 65 1 [(0,AV.aJ cr (aU3 (fun x y:Rat=>x*1+y*(-(eF a (row rows i) n/eF a lq n))) (row rows i) lq).length)]=some (.aI aM 0 1 1 1,[(aM,.cells .live [AV.aJ cr (aU3 (fun x y:Rat=>x*1+y*(-(eF a (row rows i) n/eF a lq n))) (row rows i) lq).length])]):=fun aM=>gE By rfl (by decide) (by decide) rfl
    simp only[↓aQ,aR,aK,↓reduceIte,aa,ae,hl,g2,g10,g11,g39,g40,g41,oF,w1,cb,hgi,ah4,gf,hr,ug,J2,wH,pS,eO,gT,uJ];refine dO ?_;refine⟨_,?_,i+1,(.aI (HD.length+1) 0 ((splitK a n lq rows at' i).length+1) 1 ((splitK a n lq rows at' i).length+1)),H2,vr++[AV.aJ cr (aU3 (fun x y:Rat=>x*1+y*(-(eF a (row rows i) n/eF a lq n))) (row rows i) lq).length],rfl,(by simp only[cK,hl]),?_⟩
    ·first|omega|(simp;omega)
    simp only[cM,hl,aa,ae,g0,g2,g3,g8,g10,g39,g40]
    iterate 10 refine⟨by first|trivial|rfl|(congr 1;omega)|(simp;done)|(simp;omega),?_⟩
    refine⟨?_,?_,?_,?_,?_⟩
    ·omega
    ·refine⟨⟨by have:=V2.1;have:=hLD.1;omega,fun q hqB K5=>by rw[t3 q (by have:=V2.1;have:=hLD.1;omega) (uB abj (by omega))];exact(V2.trans hLD).1.2 q hqB K5⟩,fun q stq csq hqB hq Wg=>?_⟩;have K5:q<TU.length:=(List.getElem?_eq_some_iff.1 hq).1;obtain⟨sta,da,ea⟩:=(V2.trans hLD).2 q stq csq hqB hq Wg;exact⟨sta,da,by rw[t3 q (by omega) (uB abj (by omega))];exact ea⟩
    ·rw[t3 B (by omega) (uB abj (by omega)),hBD];exact hBC
    ·rw[hsk,aMk,aWX];exact .inr ⟨by omega,HD.length+1,by omega,by omega,rfl,t1⟩
    ·rw[hsk];refine⟨by rw[aMk,aMk,Ez.1];rfl,fun j hj=>?_⟩;rw[aMk,aWX]at hj;by_cases hjl:j<vr.length
     ·have h9:=Ez.2 j hjl;rw[jC hjl,show row (splitK a n lq rows at' i++[sS a n lq (row rows i)]) j=row (splitK a n lq rows at' i) j from jC (by rw[<-Ez.1];exact hjl)];exact h9
     ·have hje:j=vr.length:=by omega
      subst hje;rw[jB rfl,show row (splitK a n lq rows at' i++[sS a n lq (row rows i)]) vr.length=sS a n lq (row rows i)from jB Ez.1];refine⟨⟨cr,rfl,rr⟩,?_⟩;show(sS a n lq (row rows i)).length=n
      unfold sS;rw[aU6,ax8,M1,aW0]
  ·have dc:decide ((i:Int)<(rows.length:Int))=false:=cH (by omega);obtain rfl:i=rows.length:=by omega
   have hB5:=hBC.trans hB3;have WE:v.cells=[v]/\b7 v=true:=by rcases vL with⟨-,-,rfl⟩|⟨-,b',-,-,rfl,-⟩<;>exact⟨rfl,rfl⟩
   have cB:=fun o=>jM (o:=o) hB5 (by decide)
   have stB:=kG (n:=1) (xs:=[v]) (o:=0) hB5;have pbB:∀x,dP H B x=H.set B x:=fun x=>eY (by omega)
   obtain⟨H5,oN⟩:∃H5,H5=H.set B (.cells .live [v,.aH,.int .i64 U5]):=⟨_,rfl⟩;have hl5:H5.length=H.length:=by rw[oN,aPp]
   have hB6:H5[B]?=some (.cells .live [v,.aH,.int .i64 U5]):=by rw[oN,aOc (by omega)]
   have V4:nK B H H5:=by rw[oN];exact nK.set _
   have cB5:=fun o=>jM (o:=o) hB6 (by decide)
   obtain⟨st5,d5,e5⟩:=V4.2 (H0.length+1) _ _ (by omega) e1 d1;have cY5:=fun o=>jM (o:=o) e5 d5
   obtain⟨cZ,bZ,rZ,hbZ,awV⟩:=(hYr.mono (hLe.trans V4)).fz2;have aon:=(awV []).2;rw[List.append_nil]at aon;obtain⟨pr,hpr,c,B6,JY,bc,ipr⟩:=tK (E:=E) (v:=.aJ cZ lq.length) ⟨cZ,rfl,rZ⟩ (k:=l) blq (by omega) (by omega);obtain⟨cp,rfl,rp⟩:=id ipr;obtain⟨H6,aa4,ahv,Sa,hB7,-⟩:=sM (H:=H5) false hbZ;have aa4:=aa4 [];simp only[aLs,if_false,List.append_nil]at aa4;rw[hB6]at hB7;obtain⟨P9,ahw⟩:∃P,P=AV.aJ cp (lq.map fun x=>x*c).length:=⟨_,rfl⟩;rw[<-ahw]at hpr;have KS:P9.cells=[P9]/\b7 P9=true/\aN P9=true/\bJ P9=false:=by subst ahw;exact⟨rfl,rfl,rfl,rfl⟩
   have anz:dP H B (.cells .live [v,.aH,.int .i64 U5])=H5:=by rw[pbB,oN]
   simp only[↓aQ,aR,aK,dt,↓reduceIte,aa,ah,ae,ai,hl,g0,g11,g40,g41,dc,stB,WE,anz,cB5];refine gb 1 ?_;simp only[↓aQ,aR,↓aT,aK,dt,↓reduceIte,aa,ah,ae,ao,ai,hl,g3,g8,cY5,aon,hpr,KS,aa4,Sa,hl5];have hLv:nX H6 B n v (splitK a n lq rows at' rows.length):=by
    refine nX.mono ?_ (V4.trans ahv);rcases vL with⟨e1,e2,e3⟩|⟨e1,bv,e2,e3,e4,e5⟩
    ·exact .inl ⟨aVC e1,e3⟩
    ·refine .inr ⟨e1,bv,.live,vr,e4,by omega,e3,e5,by decide,Ez.1,fun j hj=>?_⟩;obtain⟨⟨cs,f1,f2⟩,f3⟩:=Ez.2 j (by omega);exact⟨.inl ⟨cs,f1,f2⟩,f3⟩
   obtain⟨L6,hL6⟩:∃L6,L6=H.length:=⟨_,rfl⟩;have Wi:H6.length=L6:=by omega
   have anM:nK B H0 H6:=hLe.trans (V4.trans ahv);have V0:B<H6.length:=by omega
   rw[<-hL6];clear vL V2 hBC eb cb hB5 cB stB pbB oN hl5 V4 e5 cY5 ahv Sa hLe hlC hL6 e0 e1 e2 anz;refine fh (fun k_ ts H=>∃j ws,k_=N-j/\ts.length=108/\gt ts 0=.b6 B 0/\gt ts 16=.b6 L6 0/\gt ts 90=.int .i64 (N:Int)/\gt ts 91=.int .i64 (j:Int)/\H=H6++[.cells .live (P9::ws)]/\(j<=N)/\(Wd ws)) (N) ?_ ?_
   rotate_left
   ·refine⟨0,[.int .u64 0,.int .u64 0,.int .u64 0,.int .u64 0,.int .u64 0,.int .u64 0,.int .u64 0,.int .u64 0,.int .u64 0,.int .u64 0,.int .u64 0,.int .u64 0,.int .u64 0,.int .u64 0,.int .u64 0,.int .u64 0],(by first|omega|rfl|(simp;done)),(by simp only[cK,hl]),?_⟩;simp only[cM,hl,aa,ae,g0]
    iterate 5 refine⟨by first|trivial|rfl|(congr 1;omega)|(simp;done)|(simp;omega),?_⟩
    refine⟨?_,?_⟩
    ·omega
    ·exact wd0
   clear hl g0 g2 g3 g8 g10 g11 g39 g40 g41 ts;rintro k_ ts H ⟨j,ws,rfl,hl,g0,g16,g90,g91,rfl,hj,hw⟩;refine VS ?_;by_cases xL:j<N
   ·have dc:decide ((j:Int)<(N:Int))=true:=cF (by omega);have w1:aV .i64 ((j:Int)+1)=((j+1:Nat):Int):=by rw[wrap_i64 (by omega) (by omega)];omega
    obtain⟨u,H',oK,rfl,ws',rfl,hw'⟩:=XX (E:=E) (H0:=H6) (r:=P9) (i:=j) hw (by omega);rw[Wi]at oK;simp only[↓aQ,aR,↓aT,aK,aa,ae,hl,g16,g90,g91,dc,w1,oK];refine dO ?_;refine⟨_,?_,j+1,ws',rfl,(by simp only[cK,hl]),?_⟩
    ·first|omega|(simp;omega)
    simp only[cM,hl,aa,ae,g0,g16,g90]
    iterate 5 refine⟨by first|trivial|rfl|(congr 1;omega)|(simp;done)|(simp;omega),?_⟩
    refine⟨?_,?_⟩
    ·omega
    ·exact hw'
   ·have dc:decide ((j:Int)<(N:Int))=false:=cH (by omega);have c16:=fun l o=>kZ (T:=H6) (l:=l) (o:=o) V0
    have cB7:=fun o=>jM (o:=o) hB7 (by decide)
    have hwl:=hw.1;have Sl:aTa 16 ws=ws:=by rw[<-hwl,List.take_length]
    have aoD:(17<=ws.length+1)=True:=eq_true (by omega);have s16:=fun xs l o=>vt (T:=H6) (n:=1) (xs:=xs) (l:=l) (o:=o) V0
    have st7:=fun xs o=>kG (n:=1) (xs:=xs) (o:=o) hB7
    have p16:=fun x l=>vj (T:=H6) (l:=l) (x:=x) V0
    have hwo:(P9::ws).all b7=true:=by rw[aOV,KS.2.1,Bool.true_and,List.all_eq_true];intro w hw9;obtain⟨j9,hj9,e9⟩:=aVB hw9;obtain⟨z9,hz9⟩:=hw.2 j9 (by omega);rw[aMh hj9,e9]at hz9;simp only[aLv.injEq]at hz9;rw[hz9];rfl
    have an7:∀aM,aW E aM 201 1 [(0,AV.agg (P9::ws))]=some (.aI aM 0 1 17 1,[(aM,.cells .live (P9::ws))]):=fun aM=>gE Ft rfl (by decide) (by decide) (by show(P9::ws).length=17;rw[aMn,hwl])
    have ahB:∀y l aM,aZ E (H6++y:: .cells .live (P9::ws)::l) aM .append [201,201] [.aH,.aI (L6+1) 0 1 17 1]=some (.aI aM 0 1 17 1,[(aM,.cells .live (P9::ws))]):=fun y l aM=>pN Ft (by decide) (by rw[lL Wi];rfl) (by decide) (by rw[aMn,hwl]) hwo (by decide)
    simp only[↓aQ,aR,aK,dt,↓reduceIte,aa,ah,ae,ai,hl,g0,g16,g90,g91,dc,c16,cB7,Wi,Sl,aoD,an7,ahB,s16,st7,p16,aLt,aS1,aMk];refine⟨?_,rfl,Dy.mk ⟨?_,v,L6+2,P9,ws,lq,c,?_,by omega,?_,?_,hw,by rw[ahw];exact ipr,JY,by rw[M1]at bc;exact bc,blq,M1,aoG,by rw[Zo];exact aa8,?_,B6⟩⟩
    ·rw[show(B==L6+1)=false from beq_eq_false_iff_ne.2 (by omega)];rfl
    ·exact anM.trans ((nK.set _).trans (nK.app _))
    ·rw[aOB (by rw[aPp];exact V0),aOc V0]
    ·rw[aMk,aPp,Wi];exact Nat.lt_succ_self _
    ·rw[lL (by rw[aPp];exact Wi)];rfl
    ·exact hLv.mono ((nK.set _).trans (nK.app _))
theorem OG{v:AV}(pv:aN v=true):aO E 129 [.aH,.func 130 [] [.eU [v] 0]]=some (.int .i64 (-1)):=by refine ep ?_;refine tS aeq ?_;intro ts hl g0 g1;unfold agu;simp only[↓aQ,aR,aK,aa,ae,Tryz.f129,aB,hl,g0];refine gb 1 ?_;simp only[↓aQ,aR,↓reduceIte,aa,ae,ao,aB,hl]
theorem OD{H:Hp}{B n x:Nat}{Lv rv:AV}{a:List Rat}{rows:List (List Rat)}(hL:nX H B n Lv rows)(hx:H[x]?=some (.cells .live [rv]))(h:gy rv a)(hn:a.length=n)(AA:n<=8)(hR:rows.length<=1000){k l:Nat}(ba:BL k a)(bb:mR l rows)(hk:k+l<=10000000):
  ∃fv bs z,oG false H [Lv,.func 130 [] [.b6 x 0]]=some ([fv,.func 130 [] [.eU [rv] 0]],bs)/\aO E 129 [fv,.func 130 [] [.eU [rv] 0]]=some (.int .i64 z)/\((z= -1/\∀i,i<rows.length->eF a (row rows i) n=0)∨∃i,i<rows.length/\z=(i:Int)/\eF a (row rows i) n≠0):=by
 have hfr:∀m,Dv.fz H (m+2) rv=some (rv,[]):=by
  obtain⟨cs,rfl,-⟩:=h;exact fun m=>rfl
 have fp:=IX (m:=38) hx (by decide) (r:=[(rv,[])]) (by unfold dh;rw[hfr];rfl) rfl rfl;have ff:Dv.fz H 40 (.func 130 [] [.b6 x 0])=some (.func 130 [] [.eU [rv] 0],[x]):=by unfold Dv.fz;simp only[dh,fp];rfl
 have key:∀fv bl,Dv.fz H 40 Lv=some (fv,bl)->oG false H [Lv,.func 130 [] [.b6 x 0]]=some ([fv,.func 130 [] [.eU [rv] 0]],bl++[x]):=by
  intro fv bl e;rw[kV];unfold bW;rw[if_neg (by simp[bE,aN])];simp only[dh,e,ff]
  simp
 by_cases h0:0<rows.length
 ·obtain⟨vs,bl,f1,f2,-⟩:=hL.fz h0 37;obtain⟨z,hz,hs⟩:=La (E:=E) h f2 hn AA hR ba bb hk;exact⟨_,_,z,key _ _ f1,hz,hs⟩
 ·obtain⟨e1,e2⟩:=hL.resolve_right (fun h=>h0 h.1);subst e2;exact⟨_,_,-1,key _ _ rfl,OG h.pure,.inl ⟨rfl,fun i hi=>by omega⟩⟩
theorem xV{k:IntKind}{z:Int}:bJ (.int k z)=true:=rfl
theorem add_zero{H0:Hp}{B n N:Nat}{Lv rv:AV}{a:List Rat}{rows:List (List Rat)}(vG:B<H0.length)(hB:H0[B]?=some (.cells .live [Lv,.aH,.int .i64 (N:Int)]))(hL:nX H0 B n Lv rows)(hv:gy rv a)(ha:a.length=n)(hn:n<=8)(hR:rows.length<=1000){k l:Nat}(ba:BL k a)(bb:mR l rows)(hk:k+l<=500000)(hz:∀i,i<rows.length->eF a (row rows i) n=0)(hN:N<=1000):
  ∃r H',cL E 99 [.b6 B 0,rv] H0=some (r,H')/\r=.tuple []/\nK B H0 H'/\H'[B]?=some (.cells .live [Lv,.aH,.int .i64 ((N+1:Nat):Int)]):=by
 have c1:=fun l o=>kZ (T:=H0) (l:=l) (o:=o) vG
 have c3:=fun o=>jM (o:=o) hB (by decide)
 have s1:=fun xs l o=>vt (T:=H0) (n:=1) (xs:=xs) (l:=l) (o:=o) vG
 have s3:=fun xs o=>kG (n:=1) (xs:=xs) (o:=o) hB
 have p1:=fun x l=>vj (T:=H0) (l:=l) (x:=x) vG
 obtain⟨ca,rfl,ra⟩:=id hv;have w1:aV .i64 ((N:Int)+1)=((N+1:Nat):Int):=by rw[wrap_i64 (by omega) (by omega)];omega
 obtain⟨H1,MW⟩:∃H1,H1=H0.set B (.cells .live [Lv,.aH,.int .i64 ((N+1:Nat):Int)]):=⟨_,rfl⟩;have uN:H1.length=H0.length:=by rw[MW,aPp]
 have VZ:H1[B]?=some (.cells .live [Lv,.aH,.int .i64 ((N+1:Nat):Int)]):=by rw[MW,aOc vG]
 have I0:nK B H0 H1:=by rw[MW];exact nK.set _
 have c4:=fun l o=>kZ (T:=H1) (l:=l) (o:=o) (show B<H1.length by omega)
 have c5:=fun o=>jM (o:=o) VZ (by decide)
 have s4:=fun xs l o=>vt (T:=H1) (n:=1) (xs:=xs) (l:=l) (o:=o) (show B<H1.length by omega)
 have s5:=fun xs o=>kG (n:=1) (xs:=xs) (o:=o) VZ
 have p4:=fun x l=>vj (T:=H1) (l:=l) (x:=x) (show B<H1.length by omega)
 obtain⟨fv,bs,z,gf,FF,yK⟩:=OD (E:=E) (H:=H1++[.cells .live [.aJ ca a.length]]) (x:=H0.length) (hL.mono (I0.trans (nK.app _))) (by rw[gk uN];rfl) hv ha hn hR ba bb (by omega);have Sn:z= -1:=by
  rcases yK with h|⟨i,h1,h2,h3⟩
  ·exact h.1
  ·exact absurd (hz i h1) h3
 subst Sn;refine gi2 (by rw[C.ud]) (by rw[C.fn];exact ahg) (by decide) ?_;intro ts hl g0 g1;unfold c99;simp only[↓aQ,aR,↓aT,aK,dt,↓reduceIte,aa,ah,ae,Tryz.f99,au,aB,hl,g0,g1,c1,c3,s1,s3,p1,w1,<-MW,c4,c5,gf,FF,uN,xV,aMk];refine gb 1 ?_;simp only[↓aQ,aR,aK,dt,↓reduceIte,aa,ah,ae,ao,ai,aB,hl,g0,s4,s5,p4,uN,aMk];refine⟨rfl,I0.trans ((nK.set _).trans (nK.app _)),?_⟩;rw[aOB (by rw[aPp];omega),aOc (by omega)]
theorem Gw{H0:Hp}{B n N:Nat}{Lv rv:AV}{a:List Rat}{rows:List (List Rat)}(vG:B<H0.length)(hB:H0[B]?=some (.cells .live [Lv,.aH,.int .i64 (N:Int)]))(hL:nX H0 B n Lv rows)(hv:gy rv a)(ha:a.length=n)(hn:n<=8)(hR:rows.length<=1000){k l:Nat}(ba:BL k a)(bb:mR l rows)(hk:k+l<=500000)(hz:¬∀i,i<rows.length->eF a (row rows i) n=0)(hN:N<=1000):
  ∃r H',cL E 99 [.b6 B 0,rv] H0=some (r,H')/\r=.tuple []/\∃at' H1,at'<rows.length/\eF a (row rows at') n≠0/\nK B H0 H1/\Dy H1 H' B n at' l ((N+1:Nat):Int) a rows:=by
 have c1:=fun l o=>kZ (T:=H0) (l:=l) (o:=o) vG
 have c3:=fun o=>jM (o:=o) hB (by decide)
 have s1:=fun xs l o=>vt (T:=H0) (n:=1) (xs:=xs) (l:=l) (o:=o) vG
 have s3:=fun xs o=>kG (n:=1) (xs:=xs) (o:=o) hB
 have p1:=fun x l=>vj (T:=H0) (l:=l) (x:=x) vG
 obtain⟨ca,rfl,ra⟩:=id hv;have w1:aV .i64 ((N:Int)+1)=((N+1:Nat):Int):=by rw[wrap_i64 (by omega) (by omega)];omega
 obtain⟨H1,MW⟩:∃H1,H1=H0.set B (.cells .live [Lv,.aH,.int .i64 ((N+1:Nat):Int)]):=⟨_,rfl⟩;have uN:H1.length=H0.length:=by rw[MW,aPp]
 have VZ:H1[B]?=some (.cells .live [Lv,.aH,.int .i64 ((N+1:Nat):Int)]):=by rw[MW,aOc vG]
 have I0:nK B H0 H1:=by rw[MW];exact nK.set _
 have c4:=fun l o=>kZ (T:=H1) (l:=l) (o:=o) (show B<H1.length by omega)
 have c5:=fun o=>jM (o:=o) VZ (by decide)
 have s4:=fun xs l o=>vt (T:=H1) (n:=1) (xs:=xs) (l:=l) (o:=o) (show B<H1.length by omega)
 have s5:=fun xs o=>kG (n:=1) (xs:=xs) (o:=o) VZ
 have p4:=fun x l=>vj (T:=H1) (l:=l) (x:=x) (show B<H1.length by omega)
 obtain⟨fv,bs,z,gf,FF,yK⟩:=OD (E:=E) (H:=H1++[.cells .live [.aJ ca a.length]]) (x:=H0.length) (hL.mono (I0.trans (nK.app _))) (by rw[gk uN];rfl) hv ha hn hR ba bb (by omega);obtain⟨at',h1,rfl,h3⟩:=yK.resolve_left (fun h=>hz h.2);have F5:(((at':Nat):Int)≥0)=True:=eq_true (by omega);have aF6:decide (((at':Nat):Int)≥0)=true:=cF (by omega);obtain⟨u,H',yK,rfl,tX⟩:=PE (E:=E) (H0:=H1++[.cells .live [.aJ ca a.length]]) (by rw[aMk];omega) (by rw[aOB (by omega)];exact VZ) (hL.mono (I0.trans (nK.app _))) h1 hv ha hn hR ba bb hk h3 (N:=N) hN;refine gi2 (by rw[C.ud]) (by rw[C.fn];exact ahg) (by decide) ?_;intro ts hl g0 g1;unfold c99;simp only[↓aQ,aR,↓aT,aK,dt,↓reduceIte,aa,ah,ae,Tryz.f99,hl,g0,g1,c1,c3,s1,s3,p1,w1,<-MW,c4,c5,gf,FF,uN,xV,F5,yK];exact⟨rfl,at',_,h1,h3,I0.trans (nK.app _),tX⟩
theorem Nl{H0:Hp}{B n N rb:Nat}{Lv rv P:AV}{ws:List AV}{pq:List Rat}{a:List Rat}{rows:List (List Rat)}(vG:B<H0.length)(hB:H0[B]?=some (.cells .live [Lv,.aI rb 0 1 17 1,.int .i64 (N:Int)]))(hrB:rb≠B)(Si:rb<H0.length)(hrb:H0[rb]?=some (.cells .live (P::ws)))(hw:Wd ws)(hP:gy P pq)(Zt:pq.length=n)(hL:nX H0 B n Lv rows)(hv:gy rv a)(ha:a.length=n)(hn:n<=8)(hR:rows.length<=1000){k l:Nat}(ba:BL k a)(bb:mR l rows)(hk:k+l<=500000)(hz:∀i,i<rows.length->eF a (row rows i) n=0)(hN:N<=1000){kp:Nat}(bp:BL kp pq)(hkp:k+kp<=10000000)(K4:0<(eF a pq n).num):
  ∃r H',cL E 99 [.b6 B 0,rv] H0=some (r,H')/\r=.tuple []/\nK B H0 H'/\H'[B]?=some (.cells .live [Lv,.aH,.int .i64 ((N+1:Nat):Int)]):=by
 have c1:=fun l o=>kZ (T:=H0) (l:=l) (o:=o) vG
 have c3:=fun o=>jM (o:=o) hB (by decide)
 have s1:=fun xs l o=>vt (T:=H0) (n:=1) (xs:=xs) (l:=l) (o:=o) vG
 have s3:=fun xs o=>kG (n:=1) (xs:=xs) (o:=o) hB
 have p1:=fun x l=>vj (T:=H0) (l:=l) (x:=x) vG
 obtain⟨ca,rfl,ra⟩:=id hv;have w1:aV .i64 ((N:Int)+1)=((N+1:Nat):Int):=by rw[wrap_i64 (by omega) (by omega)];omega
 obtain⟨H1,MW⟩:∃H1,H1=H0.set B (.cells .live [Lv,.aI rb 0 1 17 1,.int .i64 ((N+1:Nat):Int)]):=⟨_,rfl⟩;have uN:H1.length=H0.length:=by rw[MW,aPp]
 have VZ:H1[B]?=some (.cells .live [Lv,.aI rb 0 1 17 1,.int .i64 ((N+1:Nat):Int)]):=by rw[MW,aOc vG]
 have I0:nK B H0 H1:=by rw[MW];exact nK.set _
 have c4:=fun l o=>kZ (T:=H1) (l:=l) (o:=o) (show B<H1.length by omega)
 have c5:=fun o=>jM (o:=o) VZ (by decide)
 have s4:=fun xs l o=>vt (T:=H1) (n:=1) (xs:=xs) (l:=l) (o:=o) (show B<H1.length by omega)
 have s5:=fun xs o=>kG (n:=1) (xs:=xs) (o:=o) VZ
 have p4:=fun x l=>vj (T:=H1) (l:=l) (x:=x) (show B<H1.length by omega)
 obtain⟨fv,bs,z,gf,FF,yK⟩:=OD (E:=E) (H:=H1++[.cells .live [.aJ ca a.length]]) (x:=H0.length) (hL.mono (I0.trans (nK.app _))) (by rw[gk uN];rfl) hv ha hn hR ba bb (by omega);have Sn:z= -1:=by
  rcases yK with h|⟨i,h1,h2,h3⟩
  ·exact h.1
  ·exact absurd (hz i h1) h3
 subst Sn;obtain⟨z0,z1,z2,z3,z4,z5,z6,z7,z8,z9,TO,TP,z12,TQ,TR,TS,rfl⟩:=afL hw;have ape:H1[rb]?=some (.cells .live (P::[.int .u64 z0,.int .u64 z1,.int .u64 z2,.int .u64 z3,.int .u64 z4,.int .u64 z5,.int .u64 z6,.int .u64 z7,.int .u64 z8,.int .u64 z9,.int .u64 TO,.int .u64 TP,.int .u64 z12,.int .u64 TQ,.int .u64 TR,.int .u64 TS])):=by rw[MW,aN9 (fun h=>hrB h.symm)];exact hrb
 have c6:=fun l o=>kZ (T:=H1) (l:=l) (o:=o) (show rb<H1.length by omega)
 have c7:=fun o=>jM (o:=o) ape (by decide)
 have a6:=fun n l o=>rN (T:=H1) (n:=n) (l:=l) (o:=o) (show rb<H1.length by omega)
 have a7:=fun n o=>jL (n:=n) (o:=o) ape (by decide)
 obtain⟨q,hq,iq⟩:=xy (E:=E) hv hP (by omega) (by omega) ba bp hkp;rw[ha]at iq;obtain⟨FJ,FH,FK,FI,_,_,rfl,-,-,-,-⟩:=bR iq;have Q:=aU _ iq;have sq:=jh (E:=E) iq;have tE:decide (xd (eF a pq n).num>0)=true:=by unfold xd;rw[if_neg (by omega),if_neg (by omega)];rfl
 have KS:P.cells=[P]/\b7 P=true/\aN P=true/\bJ P=false:=by obtain⟨cp,rfl,-⟩:=hP;exact⟨rfl,rfl,rfl,rfl⟩
 have awF:∀aM,aW E aM 201 1 [(0,AV.agg [P,.int .u64 z0,.int .u64 z1,.int .u64 z2,.int .u64 z3,.int .u64 z4,.int .u64 z5,.int .u64 z6,.int .u64 z7,.int .u64 z8,.int .u64 z9,.int .u64 TO,.int .u64 TP,.int .u64 z12,.int .u64 TQ,.int .u64 TR,.int .u64 TS])]=some (.aI aM 0 1 17 1,[(aM,.cells .live [P,.int .u64 z0,.int .u64 z1,.int .u64 z2,.int .u64 z3,.int .u64 z4,.int .u64 z5,.int .u64 z6,.int .u64 z7,.int .u64 z8,.int .u64 z9,.int .u64 TO,.int .u64 TP,.int .u64 z12,.int .u64 TQ,.int .u64 TR,.int .u64 TS])]):=fun aM=>gE Ft rfl (by decide) (by decide) rfl
 have awE:∀aM,aW E aM 118 1 [(0,AV.agg [.bool FJ,FH,.bool FK,FI])]=some (.aI aM 0 1 4 1,[(aM,.cells .live [.bool FJ,FH,.bool FK,FI])]):=fun aM=>gE vo rfl (by decide) (by decide) rfl
 have awu:∀x y z aM,aZ E (H1++[x,y,z,.cells .live [P,.int .u64 z0,.int .u64 z1,.int .u64 z2,.int .u64 z3,.int .u64 z4,.int .u64 z5,.int .u64 z6,.int .u64 z7,.int .u64 z8,.int .u64 z9,.int .u64 TO,.int .u64 TP,.int .u64 z12,.int .u64 TQ,.int .u64 TR,.int .u64 TS]]) aM .append [201,201] [.aH,.aI (H0.length+3) 0 1 17 1]=some (.aI aM 0 1 17 1,[(aM,.cells .live [P,.int .u64 z0,.int .u64 z1,.int .u64 z2,.int .u64 z3,.int .u64 z4,.int .u64 z5,.int .u64 z6,.int .u64 z7,.int .u64 z8,.int .u64 z9,.int .u64 TO,.int .u64 TP,.int .u64 z12,.int .u64 TQ,.int .u64 TR,.int .u64 TS])]):=fun x y z aM=>pN Ft (by decide) (by rw[lL uN];rfl) (by decide) rfl (by simp only[aOV,KS.2.1,Xi,List.all_nil,Bool.and_self]) (by decide)
 have aws:=fun(H:Hp) aM=>agi (H:=H) (aM:=aM) (Ft (E:=E))
 have awt:∀x y z u v aM,aZ E (H1++[x,y,z,u,v,.cells .live [.bool FJ,FH,.bool FK,FI]]) aM .append [118,118] [.aH,.aI (H0.length+5) 0 1 4 1]=some (.aI aM 0 1 4 1,[(aM,.cells .live [.bool FJ,FH,.bool FK,FI])]):=fun x y z u v aM=>pN vo (by decide) (by rw[lL uN];rfl) (by decide) rfl (by simp only[aOV,Q,qp,List.all_nil,Bool.and_self]) (by decide)
 refine gi2 (by rw[C.ud]) (by rw[C.fn];exact ahg) (by decide) ?_;intro ts hl g0 g1;unfold c99;simp only[↓aQ,aR,↓aT,aK,dt,↓reduceIte,aa,ah,ae,Tryz.f99,au,aB,hl,g0,g1,c1,c3,s1,s3,p1,w1,<-MW,c4,c5,gf,FF,uN,xV,aMk];refine gb 2 ?_;simp only[↓aQ,aR,↓aT,aK,dt,↓reduceIte,aa,ah,ak,ae,an,ao,aq,aA,aB,aD,hl,a6,a7,uN,xV,Q,sq,tE,hq,KS,awF,awE,awu,awt,AF,aS1,aMk];refine gb 2 ?_;simp only[↓aQ,aR,aK,dt,↓reduceIte,aa,ah,ak,ae,an,ao,aq,aB,hl,uN,KS,aS1,aMk];refine gb 1 ?_;simp only[↓aQ,aR,aK,dt,↓reduceIte,aa,ah,ae,ao,ai,aA,aB,hl,g0,s4,s5,p4,uN,AF,aws,aMk];refine⟨rfl,I0.trans ((nK.set _).trans (nK.app _)),?_⟩;rw[aOB (by rw[aPp];omega),aOc (by omega)]
def Ca(n j:Nat):List Rat:=(List.replicate n 0).set j 1
def lX(n:Nat):List (List Rat):=(List.range n).map (Ca n)
theorem uO{n j:Nat}(h:j<n):row (lX n) j=Ca n j:=by unfold row lX;rw[aSW,aNe,List.getElem?_range h];rfl
theorem Bc{n j:Nat}:(Ca n j).length=n:=by unfold Ca;rw[aPp,aU5]
def FM(H:Hp)(B n:Nat)(v:AV)(i:Nat):Prop:=(i=0/\v=.aH)∨(0<i/\∃b hs,v=.aI b 0 i 1 i/\B<b/\b<H.length/\H[b]?=some (.cells .live hs)/\hs.length=i/\∀j,j<i->∃c cs,hs.getD j aX=.aI c 0 n 4 n/\c≠b/\B<c/\c<H.length/\H[c]?=some (.cells .live cs)/\iZ cs (Ca n j))
theorem FM.Zw{H:Hp}{B n:Nat}{v:AV}(h:FM H B n v n):nX H B n v (lX n):=by
 have hl:(lX n).length=n:=by unfold lX;rw[aOT,aWZ]
 rcases h with⟨h0,e⟩|⟨h0,b,hs,e,hB,hb,h1,h2,h3⟩
 ·exact .inl ⟨aVC (by omega),e⟩
 ·refine .inr ⟨by omega,b,.live,hs,by rw[hl];exact e,by omega,hb,h1,by decide,by omega,fun j hj=>?_⟩;rw[hl]at hj;obtain⟨c,cs,f1,f2,f3,f4,f5,f6⟩:=h3 j hj;rw[uO hj];exact⟨.inr ⟨c,.live,cs,by rw[Bc];exact f1,by omega,f4,f5,by decide,f6⟩,Bc⟩
theorem FM.step{H H2:Hp}{B n i k r:Nat}{v:AV}{hs cs:List AV}(h:FM H B n v i)(lJ:u7 1 0 v H i hs)(hi:hs.length=i)(hB:B<H.length)(hr:H.length<=r)(hk:r<k)(qY:k<H2.length)(h1:H2[k]?=some (.cells .live (hs++[.aI r 0 n 4 n])))(h2:H2[r]?=some (.cells .live cs))(hc:iZ cs (Ca n i))(hp:∀q,q<H.length->q≠B->(∀m,v≠ .aI q 0 m 1 m)->H2[q]?=H[q]?):FM H2 B n (.aI k 0 (i+1) 1 (i+1)) (i+1):=by
 refine .inr ⟨by omega,k,_,rfl,by omega,qY,h1,by rw[aMk,hi];rfl,fun j hj=>?_⟩;by_cases e:j=i
 ·subst e;exact⟨r,cs,jB hi.symm,by omega,by omega,by omega,h2,hc⟩
 ·rcases h with⟨h0,-⟩|⟨h0,b,vh,e1,hb,tz,h3,h4,h5⟩
  ·omega
  ·have hss:hs=vh:=by
    rcases lJ with⟨h8,-,-⟩|⟨-,b',-,-,e3,h9⟩
    ·omega
    ·rw[e1]at e3;simp only[AV.aI.injEq,and_true]at e3;obtain rfl:=e3;rw[h3]at h9;simpa using h9.symm
   subst hss;obtain⟨c,tL,f1,f2,f3,f4,f5,f6⟩:=h5 j (by omega);refine⟨c,tL,by rw[jC (by omega)];exact f1,by omega,f3,by omega,?_,f6⟩;rw[hp c f4 (by omega)]
   ·exact f5
   ·intro m e3;rw[e1]at e3;simp only[AV.aI.injEq]at e3;exact f2 e3.1.symm
theorem FM.sl{H:Hp}{B n i:Nat}{v:AV}(h:FM H B n v i):∃hs,u7 1 0 v H i hs/\hs.length=i:=by
 rcases h with⟨rfl,rfl⟩|⟨h0,b,hs,e,-,h1,h2,h3,-⟩
 ·exact⟨[],.inl ⟨rfl,rfl,rfl⟩,rfl⟩
 ·exact⟨hs,.inr ⟨h0,b,Nat.zero_le _,h1,e,h2⟩,h3⟩
theorem FM.one{H:Hp}{B n i:Nat}{v:AV}(h:FM H B n v i):v.cells=[v]/\b7 v=true:=by
 rcases h with⟨rfl,rfl⟩|⟨h0,b,hs,rfl,-⟩<;>exact⟨rfl,rfl⟩
theorem PJ{H0:Hp}{n:Nat}(hn:n<=8)(h1n:0<n):
  ∃r H',cL E 98 [.int .i64 (n:Int)] H0=some (r,H')/\r=.b6 H0.length 0/\H0.length<H'.length/\(∀k,k<H0.length->H'[k]?=H0[k]?)/\∃Lv,H'[H0.length]?=some (.cells .live [Lv,.aH,.int .i64 0])/\nX H' H0.length n Lv (lX n):=by
 obtain⟨o,ho,io⟩:=jJ (E:=E) (n:=1) (by omega) (by omega);obtain⟨on0,om0,on1,om1,_,_,rfl,-,-,-,-⟩:=bR io;have O:=aU _ io;have J2:=fun aM=>yP (E:=E) (aM:=aM) (m:=n) (k:=.i64) (k':=.i64) (by omega)
 refine gi1 (by rw[C.ud]) (by rw[C.fn];exact avZ) (by decide) ?_;intro ts hl g0;unfold c98;simp only[↓aQ,aR,aK,dt,aa,ae,Tryz.f98,hl,g0,agW];refine fh (fun k_ ts H=>∃i Lv HC,k_=n-i/\ts.length=30/\gt ts 0=.int .i64 (n:Int)/\gt ts 3=.b6 H0.length 0/\gt ts 8=.int .i64 (n:Int)/\gt ts 9=.int .i64 (i:Int)/\H=HC/\(i<=n)/\(H0.length<HC.length)/\(HC[H0.length]?=some (.cells .live [Lv,.aH,.int .i64 0]))/\(∀k,k<H0.length->HC[k]?=H0[k]?)/\(FM HC H0.length n Lv i)) (n) ?_ ?_
 rotate_left
 ·refine⟨0,.aH,H0++[.cells .live [.aH,.aH,.int .i64 0]],(by first|omega|rfl|(simp;done)),(by simp only[cK,hl]),?_⟩;simp only[cM,hl,aa,ae,g0]
  iterate 5 refine⟨by first|trivial|rfl|(congr 1;omega)|(simp;done)|(simp;omega),?_⟩
  refine⟨?_,?_,?_,?_,?_⟩
  ·omega
  ·rw[aMk];exact Nat.lt_succ_self _
  ·rw[gk rfl];rfl
  ·intro k hk;exact aOB hk
  ·exact .inl ⟨rfl,rfl⟩
 clear hl g0 ts;rintro k_ ts H ⟨i,Lv,HC,rfl,hl,g0,g3,g8,g9,rfl,hi,vG,hB,hK,hL⟩;refine VS ?_;have c1:=fun l o=>kZ (T:=H) (l:=l) (o:=o) vG
 have c3:=fun o=>jM (o:=o) hB (by decide)
 by_cases hd:i<n
 ·have dc:decide ((i:Int)<(n:Int))=true:=cF (by omega);have oF:((i:Int)<(n:Int))=True:=eq_true (by omega);have w1:aV .i64 ((i:Int)+1)=((i+1:Nat):Int):=by rw[wrap_i64 (by omega) (by omega)];omega
  have hz:=iZ.FD n;have hzl:(iG [.bool false,.aH,.bool false,.aH] n).length=n*4:=by rw[hz.len,aU5]
  have oK:=hz.set (i:=i) (by rw[aU5];exact hd) io;have R6:decide (i*4+4<=(iG [.bool false,.aH,.bool false,.aH] n).length)=true:=cF (by omega);have hl4:(aTa (i*4) (iG [.bool false,.aH,.bool false,.aH] n)++AV.bool on0::om0::AV.bool on1::om1::List.drop (i*4+4) (iG [.bool false,.aH,.bool false,.aH] n))=dE (iG [.bool false,.aH,.bool false,.aH] n) (i*4) [.bool on0,om0,.bool on1,om1]:=by unfold dE;rw[aS1];rfl
  obtain⟨cs,tg⟩:∃cs,cs=dE (iG [.bool false,.aH,.bool false,.aH] n) (i*4) [.bool on0,om0,.bool on1,om1]:=⟨_,rfl⟩;rw[<-tg]at hl4 oK;obtain⟨hs,lJ,R8⟩:=hL.sl;have WE:=hL.one;have pS:∀aM,aW E aM 65 1 [(0,.aI H.length 0 n 4 n)]=some (.aI aM 0 1 1 1,[(aM,.cells .live [.aI H.length 0 n 4 n])]):=fun aM=>gE By rfl (by decide) (by decide) rfl
  obtain⟨bM,H2,gT,uJ,t1,t2,t3⟩:=jR (E:=E) (H:=H++[.cells .live cs]) (x:=[.aI H.length 0 n 4 n]) By (by decide) (xu (l:=[.cells .live cs]) lJ) (by omega) rfl rfl (by unfold gq;omega) (by omega);have Wm:(H++[cG.cells iH.live cs]).length=H.length+1:=by rw[aMk];rfl
  rw[Wm]at gT t1 t2 t3;simp only[aS1,aP4,List.nil_append,aMk,aMn,List.length_nil,Nat.zero_add,ah]at gT uJ;have hvB:∀m,Lv≠ .aI H0.length 0 m 1 m:=by
   intro m e;rcases hL with⟨-,e2⟩|⟨-,b,vh,e2,hb,-⟩
   ·rw[e2]at e;simp at e
   ·rw[e2]at e;simp only[AV.aI.injEq]at e;omega
  have hB2:H2[H0.length]?=some (.cells .live [Lv,.aH,.int .i64 0]):=by rw[t3 _ (by omega) hvB,aOB vG];exact hB
  have c2:=fun o=>jM (o:=o) hB2 (by decide)
  have s2:=fun xs o=>kG (n:=1) (xs:=xs) (o:=o) hB2
  have p2:∀x,dP H2 H0.length x=H2.set H0.length x:=fun x=>eY (by omega)
  simp only[↓aQ,aR,↓aT,aK,dt,↓reduceIte,aa,ah,ae,ai,hl,g0,g3,g8,g9,oF,w1,ho,O,J2,c1,c3,R6,hl4,pS,gT,uJ,s2,p2,aLt,aS1,aMk];have hr:H2[H.length]?=some (.cells .live cs):=by
   rw[t3 _ (by omega) ?_,gk rfl]
   ·rfl
   ·intro m e;rcases lJ with⟨-,-,e2⟩|⟨-,b,-,hb,e2,-⟩
    ·rw[e2]at e;simp at e
    ·rw[e2]at e;simp only[AV.aI.injEq]at e;omega
  refine dO ?_;refine⟨_,?_,i+1,(.aI (H.length+2) 0 (i+1) 1 (i+1)),(H2.set H0.length (.cells .live [.aI (H.length+2) 0 (i+1) 1 (i+1),.aH,.int .i64 0])),rfl,(by simp only[cK,hl]),?_⟩
  ·first|omega|(simp;omega)
  simp only[cM,hl,aa,ae,g0,g3,g8]
  iterate 5 refine⟨by first|trivial|rfl|(congr 1;omega)|(simp;done)|(simp;omega),?_⟩
  refine⟨?_,?_,?_,?_,?_⟩
  ·omega
  ·omega
  ·rw[aOc (by omega)]
  ·intro k hk;rw[aN9 (by omega),t3 k (by omega) ?_,aOB (by omega)]
   ·exact hK k hk
   ·intro m e;rcases hL with⟨-,e2⟩|⟨-,b,vh,e2,hb,-⟩
    ·rw[e2]at e;simp at e
    ·rw[e2]at e;simp only[AV.aI.injEq]at e;omega
  ·refine hL.step lJ R8 vG (Nat.le_refl _) (show H.length<H.length+2 by omega) (by rw[aPp];omega) (by rw[aN9 (by omega)];exact t1) (by rw[aN9 (by omega)];exact hr) oK (fun q hq hqB Ou=>?_);rw[aN9 (fun h=>hqB h.symm),t3 q (by omega) Ou,aOB hq]
 ·have dc:decide ((i:Int)<(n:Int))=false:=cH (by omega);obtain rfl:i=n:=by omega
  simp only[↓aQ,aR,↓reduceIte,aa,ae,hl,g3,g8,g9,dc];exact⟨vG,hK,Lv,hB,hL.Zw⟩
end Go.Proofs.YtblnjkjjedanaaaGreatDoor
namespace Go.Proofs.dN
def Ni(m:Nat)(f:Nat->FV)(r:FV)(g:Nat->FV):Prop:=(∀i,i<m->∀c,g i c=f i c)/\∀c,g m c=r c
theorem Hr{n m:Nat}{f g:Nat->FV}{r:FV}(h:Ni m f r g)(x:FV):iY n (m+1) g x↔iY n m f x/\ip n r x=0:=by
 constructor
 ·rintro⟨h0,h1⟩;refine⟨⟨h0,fun i hi=>?_⟩,?_⟩
  ·rw[oU (fun c=>(h.1 i hi c).symm) (fun _=>rfl)];exact h1 i (by omega)
  ·rw[oU (fun c=>(h.2 c).symm) (fun _=>rfl)];exact h1 m (by omega)
 ·rintro⟨⟨h0,h1⟩,h2⟩;refine⟨h0,fun i hi=>?_⟩;by_cases hm:i=m
  ·subst hm;rw[oU h.2 (fun _=>rfl)];exact h2
  ·rw[oU (h.1 i (by omega)) (fun _=>rfl)];exact h1 i (by omega)
theorem Ap{m:Nat}{f g:Nat->FV}{r:FV}(h:Ni m f r g)(x:FV):eK (SR (m+1) g) x↔∃(q:Rat) (l:FV),eK (SR m f) l/\∀c,x c=l c+q*r c:=by
 constructor
 ·intro hx;obtain⟨q,hq⟩:=uW hx;refine⟨q m,fun c=>jo (fun i=>q i*f i c) m,(jn _).Zw q (fun i hi=>eK.of (SR.get hi)),fun c=>?_⟩;rw[hq,jo,h.2,xh (fun i hi=>by rw[h.1 i hi])]
 ·rintro⟨q,l,hl,e⟩;refine eK.pO q (eK.trans ?_ hl) (eK.of ⟨m,by omega,fun c=>(h.2 c).symm⟩) e;rintro a ⟨i,hi,e⟩;exact eK.of ⟨i,by omega,fun c=>by rw[e,h.1 i hi]⟩
theorem Ja{n m:Nat}{f:Nat->FV}{x y:FV}(h:∀i,i<m->ip n (f i) y=0)(hx:eK (SR m f) x):ip n x y=0:=by
 refine Lsp.Yb (W:=fun x=>ip n x y=0) ⟨fun x hx=>gw (fun c _=>by rw[hx];grind),fun a b z q ha hb e=>?_⟩ (fun a ⟨i,hi,e⟩=>by rw[oU e (fun _=>rfl)];exact h i hi) hx;rw[jD,od e,jD (a:=y),jD (a:=y),ha,hb];grind
theorem XB{n m k:Nat}{l l' g g':Nat->FV}{r w:FV}(hl:Ni m l r l')(hg:Ni k g w g')(hG:∀y,iY n k g y↔eK (SR (m+1) l') y)(hw:∀i,i<m->ip n (l i) w=0)(hr:ip n r w≠0)(x:FV):iY n (k+1) g' x↔eK (SR m l) x:=by
 rw[Hr hg,hG,Ap hl];constructor
 ·rintro⟨⟨q,u,hu,e⟩,h0⟩;have h1:=Ja hw hu;rw[od e,jD,h1,jD (a:=w)]at h0;have hq:q=0:=by
   have h3:q*ip n r w=0:=by grind
   rcases Rat.mul_eq_zero.1 h3 with h4|h4
   ·exact h4
   ·exact absurd h4 hr
  exact hu.ext (fun c=>by rw[e,hq];grind)
 ·intro hx;exact⟨⟨0,x,hx,fun c=>by grind⟩,by rw[jD];exact Ja hw hx⟩
theorem XC{n m k:Nat}{l l' g g':Nat->FV}{r w s:FV}(hl:Ni m l r l')(hg:Ni k g s g')(hG:∀y,eK (SR k g) y↔eK (SR m l) y)(hs:eK (SR (m+1) l') s)(hw:∀i,i<m->ip n (l i) w=0)(dM:ip n w s≠0)(x:FV):eK (SR (k+1) g') x↔eK (SR (m+1) l') x:=by
 obtain⟨q,u,hu,e⟩:=(Ap hl s).1 hs;have hq:q≠0:=by
  rintro rfl;apply dM;rw[od e,jD,Ja hw hu];grind
 rw[Ap hg,Ap hl];constructor
 ·rintro⟨p,v,hv,e2⟩;exact⟨p*q,fun c=>v c+p*u c,eK.pO p ((hG v).1 hv) hu (fun c=>rfl),fun c=>by rw[e2,e];grind⟩
 ·rintro⟨p,v,hv,e2⟩;refine⟨p/q,fun c=>v c+(-(p/q))*u c,(hG _).2 (eK.pO (-(p/q)) hv hu (fun c=>rfl)),fun c=>?_⟩;rw[e2,e];have h1:p/q*q=p:=by grind
  grind
theorem CV.mix{b k m:Nat}{v:FV}{g:Nat->FV}{P:Nat->Nat}(hv:CV b v)(hg:CB k m g)(hm:m<=8):CV (b+k+4) (fun c=>v c-jo (fun i=>v (P i)*g i c) m):=by
 obtain⟨D,A,d0,d1,d2⟩:=hv;obtain⟨F,B,f0,f1,f2⟩:=hg;have qD:=iK d0;have qF:=iK f0;have hp:2^(b+k+4)=16*(2^b*2^k):=by rw[Nat.pow_add,Nat.pow_add];omega
 have hDF:(D*F).natAbs<=2^b*2^k:=by rw[aVS];exact iA d1 f1
 refine⟨D*F,fun c=>A c*F-xg (fun i=>A (P i)*B i c) m,Int.mul_ne_zero d0 f0,by omega,fun c=>⟨?_,?_⟩⟩
 ·have h1:=Ar (a:=fun i=>v (P i)) (x:=fun i=>g i c) (A:=fun i=>A (P i)) (X:=fun i=>B i c) (n:=m) qD qF (fun i _=>(d2 (P i)).1) (fun i hi=>(f2 i hi c).1);unfold ip at h1;show v c-jo (fun i=>v (P i)*g i c) m=_
  rw[h1,(d2 c).1,Rat.intCast_sub,Rat.intCast_mul,Rat.intCast_mul]
  grind
 ·have h1:(xg (fun i=>A (P i)*B i c) m).natAbs<=m*(2^b*2^k):=Dl (fun i hi=>by rw[aVS];exact iA (d2 _).2 (f2 i hi c).2);have h2:m*(2^b*2^k)<=8*(2^b*2^k):=Nat.mul_le_mul_right _ hm;have h3:(A c*F).natAbs<=2^b*2^k:=by rw[aVS];exact iA (d2 c).2 f1
  have:=Int.natAbs_sub_le (A c*F) (xg (fun i=>A (P i)*B i c) m)
  show(A c*F-xg (fun i=>A (P i)*B i c) m).natAbs<=_
  omega
end Go.Proofs.dN
namespace Go.Proofs.YtblnjkjjedanaaaGreatDoor
open Go Dv Dv.bV
variable{E:Env}[C:Ctx E]
def qf(H:Hp)(lo:Nat)(v:AV)(G:List (List Rat)):Prop:=(G=[]/\v=.aH)∨(0<G.length/\∃b hs,v=.aI b 0 G.length 1 G.length/\lo<=b/\b<H.length/\H[b]?=some (.cells .live hs)/\hs.length=G.length/\∀j,j<G.length->∃c,hs.getD j aX=.aI c 0 (row G j).length 1 (row G j).length/\c≠b/\lo<=c/\c<H.length/\H[c]?=some (.cells .live (mZ (row G j))))
theorem qf.mono{H H2:Hp}{lo lo':Nat}{v:AV}{G:List (List Rat)}(h:qf H lo v G)(jN:lo'<=lo)(hl:H.length<=H2.length)(hk:∀k,lo<=k->k<H.length->H2[k]?=H[k]?):qf H2 lo' v G:=by
 rcases h with h|⟨h0,b,hs,e,h1,h2,h3,h4,h5⟩
 ·exact .inl h
 ·refine .inr ⟨h0,b,hs,e,by omega,by omega,by rw[hk b h1 h2];exact h3,h4,fun j hj=>?_⟩;obtain⟨c,f1,f2,f3,f4,f5⟩:=h5 j hj;exact⟨c,f1,f2,by omega,by omega,by rw[hk c f3 f4];exact f5⟩
theorem qf.one{H:Hp}{lo:Nat}{v:AV}{G:List (List Rat)}(h:qf H lo v G):v.cells=[v]/\b7 v=true:=by
 rcases h with⟨rfl,rfl⟩|⟨h0,b,hs,rfl,-⟩<;>exact⟨rfl,rfl⟩
theorem qf.sl{H:Hp}{lo:Nat}{v:AV}{G:List (List Rat)}(h:qf H lo v G):∃hs,u7 1 lo v H G.length hs/\hs.length=G.length:=by
 rcases h with⟨rfl,rfl⟩|⟨h0,b,hs,e,h1,h2,h3,h4,-⟩
 ·exact⟨[],.inl ⟨rfl,rfl,rfl⟩,rfl⟩
 ·exact⟨hs,.inr ⟨h0,b,h1,h2,e,h3⟩,h4⟩
theorem nI{G:List (List Rat)}{q:List Rat}{j:Nat}(h:j<G.length):row (G++[q]) j=row G j:=by unfold row;exact jC h
theorem ll{G:List (List Rat)}{q:List Rat}:row (G++[q]) G.length=q:=by unfold row;exact jB rfl
theorem qf.step{H H2:Hp}{lo k r:Nat}{v:AV}{G:List (List Rat)}{hs:List AV}{q:List Rat}(h:qf H lo v G)(lJ:u7 1 lo v H G.length hs)(jN:lo<=H.length)(hr:H.length<=r)(hkr:r≠k)(hk:H.length<=k)(yp:r<H2.length)(qY:k<H2.length)(h1:H2[k]?=some (.cells .live (hs++[.aI r 0 q.length 1 q.length])))(h2:H2[r]?=some (.cells .live (mZ q)))(hp:∀p,lo<=p->p<H.length->(∀m,v≠ .aI p 0 m 1 m)->H2[p]?=H[p]?):qf H2 lo (.aI k 0 (G.length+1) 1 (G.length+1)) (G++[q]):=by
 have R8:hs.length=G.length:=by
  obtain⟨vh,axJ,B8⟩:=h.sl;rcases lJ with⟨h0,e,-⟩|⟨h0,b,-,-,e,h3⟩
  ·rw[e,h0];rfl
  ·rcases axJ with⟨h0',-,-⟩|⟨-,b',-,-,e',h3'⟩
   ·omega
   ·rw[e]at e';simp only[AV.aI.injEq,and_true]at e';obtain rfl:=e';rw[h3]at h3';simp only[aLv.injEq,cG.cells.injEq,true_and]at h3';rw[h3'];exact B8
 refine .inr ⟨by rw[aMk];exact Nat.succ_pos _,k,_,by rw[aMk];rfl,by omega,qY,h1,by rw[aMk,aMk,R8];rfl,fun j hj=>?_⟩;rw[aMk,aWX]at hj;by_cases e:j=G.length
 ·subst e;rw[ll];exact⟨r,jB R8.symm,hkr,by omega,yp,h2⟩
 ·rw[nI (by omega)];rcases h with⟨h0,-⟩|⟨h0,b,vh,e1,sG,tz,h3,h4,h5⟩
  ·subst h0;exact absurd hj (by simp;omega)
  ·have hss:hs=vh:=by
    rcases lJ with⟨h8,-,-⟩|⟨-,b',-,-,e3,h9⟩
    ·omega
    ·rw[e1]at e3;simp only[AV.aI.injEq,and_true]at e3;obtain rfl:=e3;rw[h3]at h9;simpa using h9.symm
   subst hss;obtain⟨c,f1,f2,f3,f4,f5⟩:=h5 j (by omega);refine⟨c,by rw[jC (by omega)];exact f1,by omega,f3,by omega,?_⟩;rw[hp c f3 f4]
   ·exact f5
   ·intro m e3;rw[e1]at e3;simp only[AV.aI.injEq]at e3;exact f2 e3.1.symm
def fv(a:List Rat):dN.FV:=fun c=>a.getD c 0
theorem pk{a b:List Rat}:∀{n:Nat},eF a b n=dN.ip n (fv a) (fv b)
 |0=>rfl
 |n+1=>by
  rw[eF,pk];rfl
theorem uz{A D:Int}{b:Nat}(hD:D≠0)(hA:A.natAbs<=2^b)(hB:D.natAbs<=2^b):Bq (b+1) ((A:Rat)/(D:Rat)):=by rw[<-Rat.divInt_eq_div];have hp:2^b<2^(b+1):=Nat.pow_lt_pow_right (by omega) (by omega);exact Bq.divInt hD (by omega) (by omega)
theorem mj{b:Nat}{q:List Rat}(h:dN.CV b (fv q)):BL (b+1) q:=by intro x hx;obtain⟨j,hj,e⟩:=aVB hx;obtain⟨D,A,h0,h1,h2⟩:=h;have h3:=(h2 j).1;unfold fv at h3;rw[aSW,aMh hj,aNt,e]at h3;rw[h3];exact uz h0 (h2 j).2 h1
theorem o5{a:List Rat}{n:Nat}{line:List Rat}{rows:List (List Rat)}{at':Nat}:∀{i j:Nat},j<(splitK a n line rows at' i).length->row (splitK a n line rows at' i) j=sS a n line (row rows (if j<at' then j else j+1))
 |0,j,hj=>absurd hj (by simp[splitK])
 |i+1,j,hj=>by
  rw[splitK]at hj⊢;by_cases h:i=at'
  ·rw[if_pos h]at hj⊢;exact o5 hj
  ·rw[if_neg h]at hj⊢;rw[aMk,aWX]at hj;have hl:=so (a:=a) (n:=n) (line:=line) (rows:=rows) (at':=at') (i:=i);by_cases h2:j<(splitK a n line rows at' i).length
   ·rw[show row (splitK a n line rows at' i++[sS a n line (row rows i)]) j=row (splitK a n line rows at' i) j from jC h2];exact o5 h2
   ·have e:j=(splitK a n line rows at' i).length:=by omega
    rw[show row (splitK a n line rows at' i++[sS a n line (row rows i)]) j=sS a n line (row rows i)from jB e];congr 2;rw[hl]at e;split at e<;>split<;>omega
theorem EC{a lq x line:List Rat}{n:Nat}(hl:lq.length=x.length)(M1:lq=line∨lq=aU3 (fun x _=> -x) line line)(c:Nat):fv (sS a n lq x) c=dN.tZ n (fv a) (fv line) (fv x) c:=by
 unfold sS;rw[show fv (aU3 (fun u v=>u*1+v*(-(eF a x n/eF a lq n))) x lq) c=x.getD c 0*1+lq.getD c 0*(-(eF a x n/eF a lq n))from qW hl.symm (by grind) c];unfold dN.tZ;rw[<-pk,<-pk];rcases M1 with rfl|rfl
 ·show _=x.getD c 0+_*lq.getD c 0
  grind
 ·rw[DX,qW rfl (by grind)];show _=x.getD c 0+_*line.getD c 0
  grind
theorem afN{n m:Nat}{S:dN.FV->Prop}{l l':Nat->dN.FV}(h:dN.Gp n m S l)(e:∀i,i<m->∀c,l' i c=l i c):dN.Gp n m S l':=by
 intro x;rw[<-h x];refine⟨dN.eK.trans ?_,dN.eK.trans ?_⟩
 ·rintro a ⟨i,hi,ea⟩;exact(dN.eK.of (dN.SR.get hi)).ext (fun c=>by rw[ea,e i hi])
 ·rintro a ⟨i,hi,ea⟩;exact(dN.eK.of (dN.SR.get hi)).ext (fun c=>by rw[ea,e i hi])
def CR(b:Nat)(rows:List (List Rat)):Prop:=∀i,i<rows.length->dN.CV b (fv (row rows i))
theorem CR.yd{b:Nat}{rows:List (List Rat)}(h:CR b rows):mR (b+1) rows:=fun i hi=>mj (h i hi)
theorem o6{a:List Rat}{n at':Nat}{lq:List Rat}{rows:List (List Rat)}(tT:at'<rows.length):(splitK a n lq rows at' rows.length).length=rows.length-1:=by rw[so,if_neg (by omega)]
theorem HK{a lq:List Rat}{n at':Nat}{rows:List (List Rat)}{S:dN.FV->Prop}(h:dN.Gp n rows.length S (fun i=>fv (row rows i)))(tT:at'<rows.length)(hw:iX rows n)(hl:lq.length=n)(M1:lq=row rows at'∨lq=aU3 (fun x _=> -x) (row rows at') (row rows at'))(dM:eF a (row rows at') n≠0):dN.Gp n (splitK a n lq rows at' rows.length).length (fun x=>S x∨x=fv a) (fun i=>fv (row (splitK a n lq rows at' rows.length) i)):=by rw[pk]at dM;have h1:=h.split tT dM;rw[o6 tT];refine afN h1 (fun i hi c=>?_);rw[o5 (by rw[o6 tT];exact hi)];rw[EC (line:=row rows at') (by rw[hl,hw _ (by split<;>omega)]) M1];rfl
theorem Ms{a lq:List Rat}{n at' b k:Nat}{rows:List (List Rat)}(tT:at'<rows.length)(hw:iX rows n)(hn:n<=8)(hl:lq.length=n)(M1:lq=row rows at'∨lq=aU3 (fun x _=> -x) (row rows at') (row rows at'))(dM:eF a (row rows at') n≠0)(ha:dN.CV b (fv a))(hr:CR k rows):CR (2*k+b+4) (splitK a n lq rows at' rows.length):=by
 intro i hi;rw[o5 hi];rw[o6 tT]at hi;have aa2:(if i<at' then i else i+1)<rows.length:=by split<;>omega
 obtain⟨D,A,h0,h1,h2⟩:=dN.CV.tZ ha (hr at' tT) (hr _ aa2) hn (by rw[<-pk];exact dM);exact⟨D,A,h0,h1,fun c=>by rw[EC (line:=row rows at') (by rw[hl,hw _ aa2]) M1];exact h2 c⟩
theorem Tn{a lq:List Rat}{n at':Nat}{rows:List (List Rat)}(tT:at'<rows.length)(hw:iX rows n)(hl:lq.length=n):iX (splitK a n lq rows at' rows.length) n:=by
 intro i hi;rw[o5 hi];rw[o6 tT]at hi;unfold sS;rw[aU6,hw _ (by split<;>omega),hl,aW0]
theorem PF{a lq:List Rat}{n at':Nat}{rows:List (List Rat)}(tT:at'<rows.length)(hw:iX rows n)(hl:lq.length=n)(M1:lq=row rows at'∨lq=aU3 (fun x _=> -x) (row rows at') (row rows at'))(dM:eF a (row rows at') n≠0)(i:Nat)(hi:i<(splitK a n lq rows at' rows.length).length):eF a (row (splitK a n lq rows at' rows.length) i) n=0:=by
 rw[o5 hi,pk];rw[o6 tT]at hi;rw[dN.oU (fun _=>rfl) (EC (line:=row rows at') (by rw[hl,hw _ (by split<;>omega)]) M1)];exact dN.G8 (by rw[<-pk];exact dM)
theorem xD{a b:List Rat}:∀{n:Nat},eF (aU3 (fun x _=> -x) a a) b n= -eF a b n
 |0=>by simp only[eF];grind
 |n+1=>by
  have h1:=xD (a:=a) (b:=b) (n:=n);have h2:=qW (a:=a) (b:=a) (g:=fun x _=> -x) rfl (by grind) n;rw[eF,eF,h1,h2]
  grind
theorem DW{a b:List Rat}{q:Rat}:∀{n:Nat},eF a (b.map fun x=>x*q) n=eF a b n*q
 |0=>by simp only[eF];grind
 |n+1=>by
  have h1:=DW (a:=a) (b:=b) (q:=q) (n:=n);have h2:(b.map fun x=>x*q).getD n 0=b.getD n 0*q:=by
   simp only[aSW,aNe];cases b[n]? with
   |none=>simp only[Option.map_none,aW3];grind
   |some x=>rfl
  rw[eF,eF,h1,h2]
  grind
theorem Jr{q:Rat}:0<q↔0<q.num:=by
 constructor
 ·intro h;rw[Rat.lt_iff]at h;simpa using h
 ·intro h;rw[Rat.lt_iff];simpa using h
theorem OC{n:Nat}:dN.Gp n (lX n).length (fun _=>False) (fun i=>fv (row (lX n) i)):=by
 have hl:(lX n).length=n:=by unfold lX;rw[aOT,aWZ]
 rw[hl];refine dN.Gp.start (fun i hi c=>?_);rw[uO hi];unfold fv Ca;rw[aSW,aLq];by_cases h:i=c
 ·subst h;rw[if_pos rfl,if_pos (by rw[aU5];exact hi),if_pos rfl];rfl
 ·rw[if_neg h,if_neg (fun e=>h e.symm),aWY]
  split<;>rfl
theorem Sq{n:Nat}:CR 0 (lX n):=by
 intro i hi;have hl:(lX n).length=n:=by unfold lX;rw[aOT,aWZ]
 rw[hl]at hi;refine⟨1,fun c=>if c=i then 1 else 0,by decide,by decide,fun c=>⟨?_,by simp only;split<;>decide⟩⟩;simp only;rw[uO hi];unfold fv Ca;rw[aSW,aLq];by_cases h:i=c
 ·subst h;rw[if_pos rfl,if_pos (by rw[aU5];exact hi)]
  simp only[aNt,if_true];grind
 ·rw[if_neg h,if_neg (fun e=>h e.symm),aWY]
  split
  ·simp only[aNt];grind
  ·simp only[aW3];grind
end Go.Proofs.YtblnjkjjedanaaaGreatDoor
