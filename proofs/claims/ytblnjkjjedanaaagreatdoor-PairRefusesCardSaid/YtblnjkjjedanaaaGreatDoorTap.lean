/- A part of the proof that PairRefuses returns true for every input; no condition of its own. -/
import Derived.Test.YtblnjkjjedanaaaGreatDoorTao
set_option linter.all false
set_option maxHeartbeats 100000000
set_option maxRecDepth 100000
open List renaming getD_eq_getElem?_getD->aSW,getElem?_eq_getElem->aMh,length_pos_iff->aSX,getElem?_append_left->aOB,length_cons->aMn,length_nil->aP3,head?_cons->aSY,replicate->aK6,take_length->aR7,length_set->aPp,drop_zero->aQh,exists_cons_of_ne_nil->aS0,append_assoc->aS1,nil_append->aP5,drop_of_length_le->aS4,take_append_drop->aSe,getElem?_set_ne->aN9,map_cons->aNf,length_reverse->aS6,take->aTa,mem_singleton->aNq,flatMap_cons->aNs,flatMap_nil->aTd,getElem_mem->aMo
open Nat renaming pow_succ->aQi,lt_of_le_of_lt->aR2,mod_eq_of_lt->aRk,pow_le_pow_right->aRX,div_eq_of_lt->aS2,zero_add->aMg,pow_lt_pow_iff_right->aR8,strongRecOn->aS3,add_mul_div_right->aS5,mul_le_mul->aSb,mod_lt->aRY,mul_le_mul_right->aL8,mul_le_mul_left->aQn,pow_le_pow_left->aS7,add_comm->aS8,add_sub_cancel->aS9,pos_of_ne_zero->aSh,le_trans->aNR,reduceLT->aa,reduceEqDiff->ae,reduceAdd->ah,reduceBEq->aj
open Bool renaming false_eq_true->aLs
open Int renaming toNat_natCast->aQe,natCast_dvd_natCast->aSZ,reduceLE->an,reduceLT->ao,reduceToNat->aq,reduceGT->ar,reduceBEq->aD,reduceBNe->aE
open Option renaming getD_some->aNt
namespace Go.Proofs.YtblnjkjjedanaaaGreatDoor
open Go Dv Dv.bV
variable{E:Env}[C:Ctx E]
theorem aac{A B Q W p:Nat}(h:A*p=Q*(B*p)+W)(gO:W<B*p)(hp:0<p):Q=A/B/\W/p=A%B:=by
 have h1:A=Q*B+W/p:=by
  have h2:(Q*B*p+W)/p=Q*B+W/p:=by rw[aS8,aS5 _ _ hp,aS8]
  rw[<-h2,Nat.mul_assoc,<-h,Nat.mul_div_cancel _ hp]
 have h3:W/p<B:=Nat.div_lt_of_lt_mul (by rw[Nat.mul_comm];exact gO);have hB:0<B:=aR2 (Nat.zero_le _) h3;generalize W/p=R at*;subst h1;rw[aS8,aS5 _ _ hB,Nat.add_mul_mod_self_right,aS2 h3,aRk h3];omega
theorem ZR{aM:Nat}{x:Int}:aW E aM 58 1 [(0,.int .u32 x)]=some (.aI aM 0 1 1 1,[(aM,.cells .live [.int .u32 x])]):=by obtain⟨i,e,ei,h1,h2,h3,h4,h5,h6,h7⟩:=iB (CQ (E:=E));obtain⟨cS,isAgg,size,bytes,zero,eQ⟩:=i;simp only at h2;subst h2;simp[aW,h1,h3,h7,h5,hZ,iG,AV.cells]
theorem ug{cs:List AV}{n:Nat}:bJ (.aJ cs n)=false:=rfl
theorem Yw{cs:List AV}:cG.nN (.cells .live cs)=.cells .ro cs:=rfl
theorem Ej{H:Hp}{b m:Nat}{l:List Nat}{st:iH}(h:H[b]?=some (.cells st (cP l)))(hd:st≠ .dead)(hm:l.length=m):oG false H [.aI b 0 m 1 m]=some ([.aJ (cP l) m],[b]):=by subst hm;rw[kV];exact wu h hd
theorem Yx{P M X d v:Nat}(h:M=X+P*d)(hm:M<v)(hv:v<P):d=0:=by
 refine Nat.eq_zero_of_not_pos fun hd=>?_
 have:P*1<=P*d:=aQn _ hd
 omega
theorem abV{P M X d v x:Nat}(h:M=X+P*d)(hm:M<v)(hx:x<4294967296):x+4294967296*X<4294967296*v:=by
 have h1:X+1<=v:=by omega
 have h2:=aQn 4294967296 h1;omega
theorem Vj{U W W' Q:List Nat}{i n q v:Nat}(hW:W.length=U.length)(hU:i+(n+3)<=U.length)(hW':W'.length=W.length)(ho:∀j,(j<i∨i+(n+3)<=j)->W'.getD j 0=W.getD j 0)(hm:pY W' i (n+3)+q*v=pY W i (n+3))(hQ:i<Q.length)
  (hv:val U=4294967296^(i+1)*(val (Q.drop (i+1))*v)+val W):val U=4294967296^i*(val ((Q.set i q).drop i)*v)+val W':=by
 have h1:=PU (W:=W) (W':=W') (off:=i) (m:=n+3) (by omega) hW' ho;have h2:val ((Q.set i q).drop i)=q+4294967296*val (Q.drop (i+1)):=by
  have:=ym (l:=Q) (k:=i+1) (d:=q) (by omega) (by omega)
  simpa using this
 rw[h2,hv,aQi];rw[<-hm]at h1;generalize 4294967296^i=P at*;generalize val (Q.drop (i+1))=D at*;generalize pY W' i (n+3)=M at*;have e1:P*4294967296*(D*v)+P*(q*v)=P*((q+4294967296*D)*v):=by
  rw[Nat.add_mul,Nat.mul_add]
  have:P*4294967296*(D*v)=P*(4294967296*D*v):=by ac_rfl
  omega
 rw[Nat.mul_add]at h1;omega
theorem BS{va vb:AV}{a b:List Nat}(ha:fG va a)(hb:fG vb b)(na:Norm a)(nb:Norm b)(dM:b≠[])(la:a.length<10000000000)(lb:b.length<10000000000):
  ∃q r,aO E 143 [va,vb]=some (.tuple [q,r])/\∃ql rl,fG q ql/\Norm ql/\val ql=val a/val b/\fG r rl/\Norm rl/\val rl=val a%val b:=by
 suffices hh:∃u,aO E 143 [va,vb]=some u/\∃q r,u=.tuple [q,r]/\∃ql rl,fG q ql/\Norm ql/\val ql=val a/val b/\fG r rl/\Norm rl/\val rl=val a%val b by
  obtain⟨u,h1,q,r,rfl,h2⟩:=hh;exact⟨q,r,h1,h2⟩
 refine tS amZ ?_;intro ts hl g0 g1;have T:=jf C.toOver;unfold alP;have I5:=ed (uR C ha hb na nb (by omega) (by omega));have pa:=aL ha;have pb:=aL hb;by_cases gO:val a<val b
 ·have hd:decide (pP (val a) (val b)<0)=true:=cF (by unfold pP;rw[if_pos (by omega)];decide);simp only[↓aQ,kL,↓aT,aK,aa,ae,Tryz.f143,hl,g0,g1,I5,pa,pb,hd];exact⟨_,_,rfl,[],a,⟨by simp,.inr ⟨rfl,.inl rfl⟩⟩,by intro d l0 h;simp at h,by rw[aS2 gO];rfl,ha,na,(aRk gO).symm⟩
 have hd:decide (pP (val a) (val b)<0)=false:=cH (by unfold pP;rw[if_neg (by omega)];split<;>decide);have V9:0<b.length:=aSX.2 dM;by_cases h1:b.length=1
 ·obtain⟨x,rfl⟩:∃x,b=[x]:=by
   match b,h1 with
   |[x],_=>exact⟨x,rfl⟩
  have tk:x<4294967296:=hb.1 x (by simp);have J6:x≠0:=nb x [] rfl;have uN:(((([x]:List Nat).length:Nat):Int)==1)=true:=rfl;have Lf:=kN T hb (k:=.i64) (z:=0) (by omega) (by simp);have M8:(cP [x])[0]?=some (.int .u32 (x:Int)):=rfl;obtain⟨r0,Ey,ql,hq,hqn,Ou⟩:=Fv C ha (by omega) J6 tk;have hvx:val [x]=x:=by simp[val]
  rw[hvx];have ahY:val a%x<4294967296:=Nat.lt_trans (aRY _ (by omega)) tk;have AB:fG (.aJ (cP [val a%x]) 1) [val a%x]:=⟨by simpa using ahY,.inl rfl⟩;obtain⟨r,hr,I6⟩:=kJ C AB (by simp);have lW:=ed hr;have gf:oG false [.cells .live [.int .u32 ((val a%x:Nat):Int)]] [.aI 0 0 1 1 1]=some ([.aJ (cP [val a%x]) 1],[0]):=Ej (l:=[val a%x]) (st:=.live) rfl (by decide) rfl;simp only[↓aQ,kL,↓aT,aK,aa,ae,lH,jU,aq,cR,Tryz.f143,hl,g0,g1,I5,pa,pb,hd,gV hb,Lf,M8,Ey,ZR,mK,gf,lW,aL hq,aL I6];exact⟨_,_,rfl,ql,_,hq,hqn,Ou,I6,kq _,by rw[jY];simp[val]⟩
 obtain⟨n,hn⟩:∃n,b.length=n+2:=⟨b.length-2,by omega⟩;have uN:((b.length:Int)==1)=false:=by rw[beq_eq_false_iff_ne];omega
 have hle:b.length<=a.length:=by
  refine Nat.le_of_not_lt fun h=>gO (x6 ha.1 nb h)
 have wb1:aV .i64 ((b.length:Int)-1)=((n+1:Nat):Int):=by rw[wrap_i64 (by omega) (by omega)];omega
 have Lf:=kN T hb (k:=.i64) (z:=((n+1:Nat):Int)) (by omega) (by omega);rw[aQe]at Lf;have M8:=gW (out:=b) (j:=n+1) (by omega);have tk:=gN hb.1 (i:=n+1);have J6:b.getD (n+1) 0≠0:=by refine nb _ (b.take (n+1)) ?_;have e:=(aSe (n+1) b).symm;rw[List.drop_eq_getElem_cons (by omega),aS4 (by omega)]at e;rw[List.getD,aMh (by omega)];exact e
 obtain⟨s,aic,hlz,M5,I7⟩:=Pw (x:=b.getD (n+1) 0) (by omega) tk;have aoK:=abO (E:=E) tk;rw[hlz]at aoK;obtain⟨_,_,hra,U,rfl,rfl,hUl,Od,hUv⟩:=Cp (E:=E) ha (by omega) aic (H0:=[]);obtain⟨_,_,hrb,Bt,rfl,rfl,vG,hBd,hBv⟩:=Cp (E:=E) hb (by omega) aic (H0:=[.cells .live (cP U)]);simp only[aP3,aP5]at hra;simp only[aMn,aP3,List.cons_append,aP5,aMg]at hrb;have AB:fG (.aJ (cP Bt) (b.length+1)) Bt:=⟨hBd,.inl (by rw[vG])⟩;obtain⟨vv,hvv,hvm⟩:=kJ C AB (by omega);have ax0:=ed hvv;have hVn:=kq Bt;have hVv:=jY Bt;rw[hBv]at hVv;generalize kb Bt=Vl at hvm hVn hVv;obtain⟨hVl,hVt⟩:=Xd hb.1 hn hvm.1 hVn M5 I7 hVv;obtain rfl:vv=.aJ (cP Vl) (n+2):=by
  rcases hvm.2 with h|⟨h,_⟩
  ·rw[h,hVl]
  ·rw[h]at hVl;simp at hVl
 have Sj:=Yg ha.1 nb dM hle hVv;rw[<-hUv]at Sj;have aop:oG false [.cells .live (cP U),.cells .live (cP Bt)] [.aI 1 0 (b.length+1) 1 (b.length+1)]=some ([.aJ (cP Bt) (b.length+1)],[1]):=Ej (st:=.live) rfl (by decide) vG;obtain⟨K,hK⟩:∃K,K=a.length-b.length+1:=⟨_,rfl⟩;have wab:aV .i64 ((a.length:Int)-(b.length:Int))=((a.length-b.length:Nat):Int):=by rw[wrap_i64 (by omega) (by omega)];omega
 have wK:aV .i64 (((a.length-b.length:Nat):Int)+1)=(K:Int):=by rw[wrap_i64 (by omega) (by omega)];omega
 have wK1:aV .i64 ((K:Int)-1)=(K:Int)-1:=wrap_i64 (by omega) (by omega);simp only[↓aQ,kL,↓aT,aK,↓reduceIte,aa,ah,ae,lH,jU,Ji,cR,Tryz.f143,hl,g0,g1,I5,pa,pb,hd,gV ha,gV hb,uN,wb1,Lf,M8,aoK,hra,hrb,aop,ax0,ug,rP,Yw,wab,wK,wK1,afD (show K<=100000000000 by omega),Mb,k8,mK];refine fh (fun k_ ts H=>∃m W Q,k_=0+m/\ts.length=79/\gt ts 4=.aI 2 0 K 1 K/\gt ts 8=.int .i64 (s:Int)/\gt ts 9=.aI 0 0 (a.length+1) 1 (a.length+1)/\gt ts 10=.aJ (cP Vl) (n+2)/\gt ts 11=.int .i64 ((m:Int)-1)/\H=[.cells .live (cP W),.cells .ro (cP Bt),.cells .live (cP Q)]/\(m<=K)/\(W.length=a.length+1)/\(∀d∈W,d<4294967296)/\(Q.length=K)/\(∀d∈Q,d<4294967296)/\(∀j,m+(n+2)<=j->W.getD j 0=0)/\(0<m->pY W (m-1) (n+3)<4294967296*val Vl)/\(m<K->pY W m (n+2)<val Vl)/\(val U=4294967296^m*(val (Q.drop m)*val Vl)+val W)) (K) ?_ ?_
 rotate_left
 ·refine⟨K,U,aK6 K 0,(by first|omega|rfl|(simp;done)),(by simp only[cK,hl]),?_⟩;simp only[cM,hl,aa,ae]
  iterate 6 refine⟨by first|trivial|rfl|(congr 1;omega)|(simp;done)|(simp;omega),?_⟩
  refine⟨?_,?_,?_,?_,?_,?_,?_,?_,?_⟩
  ·omega
  ·exact hUl
  ·exact Od
  ·simp
  ·exact De
  ·intro j hj;rw[List.getD,List.getElem?_eq_none (by omega)];rfl
  ·intro _;rw[show K-1=a.length-b.length by omega];exact O3 (by omega) Sj
  ·intro h;omega
  ·rw[aS4 (by simp)];simp[val]
 clear hl g0 g1 ts;rintro k_ ts H ⟨m,W,Q,rfl,hl,g4,g8,g9,g10,g11,rfl,hk,hW,hWd,hQ,hQd,hWz,hW1,hW2,hv⟩;refine VS ?_;by_cases hk0:m=0
 ·subst hk0;have sD:decide ((0:Int)-1≥0)=false:=rfl;have hmq:fG (.aJ (cP Q) K) Q:=⟨hQd,.inl (by rw[hQ])⟩;have hmw:fG (.aJ (cP W) (a.length+1)) W:=⟨hWd,.inl (by rw[hW])⟩;obtain⟨qv,Ou,Ww⟩:=kJ C hmq (by omega);obtain⟨wv,hwv,hwm⟩:=kJ C hmw (by omega);have axv:=ed Ou;have ax5:=ed hwv;obtain⟨rv,qP,rl,I6,hrn,apl⟩:=Jj (E:=E) hwm (by obtain⟨z,hz⟩:=sW W;have:=congrArg List.length hz;rw[List.length_append]at this;omega) aic;have hfq:oG false [.cells .live (cP W),.cells .ro (cP Bt),.cells .live (cP Q)] [.aI 2 0 K 1 K]=some ([.aJ (cP Q) K],[2]):=Ej (st:=.live) rfl (by decide) hQ;have hfw:∀c:Bool,oG false ((if c=true then cJ.looks [2]else cJ.marks [2]).app [.cells .live (cP W),.cells .ro (cP Bt),.cells .live (cP Q)]) [.aI 0 0 (a.length+1) 1 (a.length+1)]=some ([.aJ (cP W) (a.length+1)],[0]):=by
   intro c;cases c
   ·exact Ej (st:=.live) rfl (by decide) hW
   ·exact Ej (st:=.live) rfl (by decide) hW
  simp only[↓aQ,kL,↓aT,aK,↓reduceIte,aa,ae,hl,g4,g8,g9,g11,sD,hfq,axv,hfw,ax5,qP,aL Ww,aL hwm,aL I6];have anR:=hW2 (by omega);have K0:=adq (W:=W) (m:=n+2) (by omega) (fun j hj=>hWz j (by omega));simp only[aQh,Nat.pow_zero,Nat.one_mul]at hv;rw[hUv,hVv]at hv;rw[<-K0,hVv]at anR;obtain⟨f1,f2⟩:=aac hv anR (Nat.two_pow_pos s);refine⟨_,_,rfl,_,rl,Ww,kq _,by rw[jY];exact f1,I6,hrn,?_⟩;rw[apl,jY];exact f2
 ·obtain⟨i,rfl⟩:∃i,m=i+1:=⟨m-1,by omega⟩;have av2:gt ts 11=.int .i64 (i:Int):=by rw[g11];congr 1;omega
  have sD:decide ((i:Int)≥0)=true:=cF (by omega);have anQ:=hW1 (by omega);rw[aS9]at anQ;have e2:((i:Int)<((K:Nat):Int))=True:=eq_true (by omega);have wx:aV .i64 ((i:Int)+((n+2:Nat):Int))=((i+(n+2):Nat):Int):=by rw[<-Int.natCast_add];exact rG (by omega)
  have wy:aV .i64 (((i+(n+2):Nat):Int)+1)=((i+(n+2)+1:Nat):Int):=by rw[wrap_i64 (by omega) (by omega)];omega
  have wz:aV .i64 ((i:Int)-1)=(i:Int)-1:=wrap_i64 (by omega) (by omega);have lJ:∀H,AE E H 58 (.aI 0 0 (a.length+1) 1 (a.length+1)) (some (.int .i64 (i:Int))) (some (.int .i64 ((i+(n+2)+1:Nat):Int)))=some (.aI 0 i (n+3) 1 (a.length+1-i)):=by intro H;rw[ay6 (by omega) (by omega),show i+(n+2)+1-i=n+3 by omega]
  obtain⟨_,_,awP,q,W',rfl,rfl,axs,anT,anS,hWo,axc,Sc⟩:=NU (E:=E) (off:=i) (kc:=a.length+1-i) (H1:=[.cells .ro (cP Bt),.cells .live (cP Q)]) hvm hVl (by omega) (by omega) (by omega) hWd hVt anQ;have fK:=fun z H=>tt (H:=H) (z:=z) (out:=Q) (j:=i) (by omega)
  simp only[↓aQ,kL,↓aT,aK,↓reduceIte,aa,ah,ae,jU,WW,cR,hl,g4,g9,g10,av2,e2,wx,wy,wz,lJ,awP,fK,qt,k8,fU,AV.cells];refine dO ?_;refine⟨_,?_,i,W',Q.set i q,rfl,(by simp only[cK,hl]),?_⟩
  ·first|omega|(simp;omega)
  simp only[cM,hl,aa,ae,g4,g8,g9,g10]
  iterate 6 refine⟨by first|trivial|rfl|(congr 1;omega)|(simp;done)|(simp;omega),?_⟩
  refine⟨?_,?_,?_,?_,?_,?_,?_,?_,?_⟩
  ·omega
  ·rw[anT,hW]
  ·exact anS
  ·simpa using hQ
  ·exact dK hQd axs
  ·intro j hj;by_cases T4:i+(n+3)<=j
   ·rw[hWo j (.inr T4)];exact hWz j (by omega)
   ·obtain rfl:j=i+(n+2):=by omega
    have h5:=mH (U:=W') (off:=i) (k:=n+2) (by omega);have h6:=o8 hvm.1;rw[hVl]at h6;rw[show n+3=n+2+1 from rfl]at Sc;exact Yx h5 Sc h6
  ·intro hi;obtain⟨i',rfl⟩:∃i',i=i'+1:=⟨i-1,by omega⟩;rw[aS9,W4 (by omega)];have h5:=mH (U:=W') (off:=i'+1) (k:=n+2) (by omega);have h7:=gN anS (i:=i');rw[show n+3=n+2+1 from rfl]at Sc;exact abV h5 Sc h7
  ·intro _;have h5:=mH (U:=W') (off:=i) (k:=n+2) (by omega);rw[show n+3=n+2+1 from rfl]at Sc;exact aR2 (by rw[h5];exact Nat.le_add_right _ _) Sc
  ·exact Vj (by rw[hW,hUl]) (by omega) anT hWo axc (by omega) hv
theorem wj{l:List Nat}{z:Int}(hn:Norm l)(hz:z.natAbs=val l)(h:Fit z):l.length<10000000000:=by
 obtain⟨n,h1,h2⟩:=h;by_cases he:l=[]
 ·subst he;simp
 ·have h3:=BE hn he;have h4:l.length-1<n:=by
   have:4294967296^(l.length-1)<4294967296^n:=by omega
   exact(aR8 (by omega)).1 this
  omega
theorem pz{a b:List Nat}(ha:∀d∈a,d<4294967296)(nb:Norm b)(h:val b<=val a):b.length<=a.length:=by
 refine Nat.le_of_not_lt fun gO=>?_
 have:=x6 ha nb gO
 omega
theorem tR{v w:AV}{x y:Int}(h:fk v x)(k:fk w y)(fx:Fit x)(fy:Fit y):∃r,aO E 104 [v,w]=some r/\fk r ((Int.gcd x y:Nat):Int):=by
 obtain⟨na,m,a,rfl,hm,hn,th,rfl⟩:=h;obtain⟨nb,m',b,rfl,kM,yo,K2,rfl⟩:=k;have la:=wj hn oQ fx;have lb:=wj yo oQ fy;refine tS amH ?_;intro ts hl g0 g1;have T:=jf C.toOver;unfold aly;have hg:Int.gcd (if na=true then-(val a:Int)else val a) (if nb=true then-(val b:Int)else val b)=Nat.gcd (val a) (val b):=by unfold Int.gcd;rw[oQ,oQ]
 rw[hg];simp only[↓aQ,kL,DJ,aK,aa,ah,ae,Tryz.f104,hl,g0,g1];refine fh (fun k_ ts H=>∃xv xl yv yl,k_=0+val yl/\ts.length=26/\gt ts 4=.b6 2 0/\gt ts 5=xv/\gt ts 6=yv/\H=[.cells .live [.bool na,m],.cells .live [.bool nb,m'],.cells .live [.bool false,.aH]]/\(fG xv xl)/\(fG yv yl)/\(Norm xl)/\(Norm yl)/\(xl.length<10000000000)/\(yl.length<10000000000)/\(Nat.gcd (val xl) (val yl)=Nat.gcd (val a) (val b))) (val b) ?_ ?_
 rotate_left
 ·refine⟨m,a,m',b,(by first|omega|rfl|(simp;done)),(by simp only[cK,hl]),?_⟩;simp only[cM,hl,aa,ae]
  iterate 4 refine⟨by first|trivial|rfl|(congr 1;omega)|(simp;done)|(simp;omega),?_⟩
  refine⟨?_,?_,?_,?_,?_,?_,?_⟩
  ·exact hm
  ·exact kM
  ·exact hn
  ·exact yo
  ·exact la
  ·exact lb
  ·trivial
 clear hl g0 g1 ts;rintro k_ ts H ⟨xv,xl,yv,yl,rfl,hl,g4,g5,g6,rfl,hx,hy,nx,ny,lx,ly,ahR⟩;refine VS ?_;by_cases hyn:yl=[]
 ·subst hyn;have hd:decide (((([]:List Nat).length:Nat):Int)>0)=false:=rfl;simp only[↓aQ,kL,DJ,aK,↓reduceIte,aa,ah,ae,ar,hl,g4,g5,g6,gV hy,(aY hx).1,(aY hx).2,aL hx];refine⟨false,xv,xl,rfl,hx,nx,by simp,?_⟩;simp only[val,Nat.gcd_zero_right]at ahR;rw[<-ahR];rfl
 ·have hyl:0<yl.length:=aSX.2 hyn;have hyp:=uZ ny hyn;have hd:decide ((yl.length:Int)>0)=true:=cF (by omega);obtain⟨qv,rv,hdv,ql,rl,hq,nq,vq,hr,nr,vr⟩:=BS (E:=E) hx hy nx ny hyn lx ly;simp only[↓aQ,kL,DJ,↓aT,aK,aa,ah,ae,hl,g5,g6,gV hy,hd,hdv,aL hx,aL hy];have gO:val rl<val yl:=by rw[vr];exact aRY _ hyp
  refine dO ?_;refine⟨_,?_,yv,yl,rv,rl,rfl,(by simp only[cK,hl]),?_⟩
  ·first|omega|(simp;omega)
  simp only[cM,hl,aa,ae,g4]
  iterate 4 refine⟨by first|trivial|rfl|(congr 1;omega)|(simp;done)|(simp;omega),?_⟩
  refine⟨?_,?_,?_,?_,?_,?_,?_⟩
  ·exact hy
  ·exact hr
  ·exact ny
  ·exact nr
  ·exact ly
  ·exact aR2 (pz hy.1 nr (by omega)) ly
  ·rw[vr,<-ahR,Nat.gcd_comm (val xl),Nat.gcd_rec (val yl) (val xl),Nat.gcd_comm]
theorem ZZ{s:List UInt8}:(AV.str s).cells=[.str s]:=rfl
theorem ZY{k:IntKind}{n:Int}:(AV.int k n).cells=[.int k n]:=rfl
theorem ZX{b:Bool}:(AV.bool b).cells=[.bool b]:=rfl
theorem aiS{s:List UInt8}:b7 (.str s)=true:=rfl
theorem Xi{k:IntKind}{n:Int}:b7 (.int k n)=true:=rfl
theorem qp{b:Bool}:b7 (.bool b)=true:=rfl
theorem aiR:b7 .aH=true:=rfl
theorem Rf{l:List AV}:fO (.agg l)=[]:=rfl
theorem acT{l:List AV}{n:Nat}:fO (.aJ l n)=[]:=rfl
theorem acQ:fO .aH=[]:=rfl
theorem acN:fO .ef=[]:=rfl
theorem acP{k:IntKind}{n:Int}:fO (.int k n)=[]:=rfl
theorem acM{b:Bool}:fO (.bool b)=[]:=rfl
theorem acR{s:List UInt8}:fO (.str s)=[]:=rfl
theorem acS{l:List AV}:fO (.tuple l)=[]:=rfl
theorem agn{b:Bool}:(b !=false)=b:=by cases b<;>rfl
theorem dz{v:AV}{z:Int}(h:fk v z):aN v=true:=by obtain⟨a,b,rfl,_,_,h1,h2⟩:=qZ h;simp[aN,bE,h1,h2]
theorem XZ:xd 0=0:=rfl
theorem nF{v w:AV}{x y:Int}(h:fk v x)(k:fk w y)(fx:Fit x)(fy:Fit y)(hy:0<y)(hd:y∣x):
  ∃q r,aO E 103 [v,w]=some (.tuple [q,r,.int .i64 0])/\fk q (x/y)/\fk r 0:=by
 suffices hh:∃u,aO E 103 [v,w]=some u/\∃q r,u=.tuple [q,r,.int .i64 0]/\fk q (x/y)/\fk r 0 by
  obtain⟨u,h1,q,r,rfl,h2⟩:=hh;exact⟨q,r,h1,h2⟩
 have tE:=jX C k;rw[show xd y=1 by unfold xd;split<;>(try split)<;>omega]at tE;have pv:=dz h;have pw:=dz k;obtain⟨na,m,a,rfl,hm,hn,th,rfl⟩:=h;obtain⟨nb,m',b,rfl,kM,yo,K2,rfl⟩:=k;have la:=wj hn oQ fx;have lb:=wj yo oQ fy;obtain rfl:nb=false:=by
  cases nb with
  |false=>rfl
  |true=>simp only[if_true]at hy;omega
 simp only[aLs,if_false]at hy hd;have hbp:0<val b:=by omega
 have GZ:b≠[]:=by intro e;subst e;simp[val]at hbp
 have Zp:val b∣val a:=by
  cases na with
  |false=>simp only[aLs,if_false]at hd;exact aSZ.1 hd
  |true=>simp only[if_true]at hd;exact aSZ.1 ((Int.dvd_neg).1 hd)
 obtain⟨qv,rv,hdv,ql,rl,hq,nq,vq,hr,nr,vr⟩:=BS (E:=E) hm kM hn yo GZ la lb;rw[Nat.mod_eq_zero_of_dvd Zp]at vr;have K5:ql.length<1000000000000:=by
  have:=pz hm.1 nq (by rw[vq];exact Nat.div_le_self _ _)
  omega
 have Si:rl.length<1000000000000:=by
  have:=pz (a:=[]) (by simp) nr (by rw[vr];exact Nat.zero_le _)
  simp only[aP3]at this;omega
 obtain⟨q',hq',iq⟩:=ka C hq K5 na;obtain⟨r',lW,ir⟩:=ka C hr Si na;have cq:=ed hq';have cr:=ed lW;rw[vr]at ir;have ir0:fk r' 0:=by cases na<;>simpa using ir
 have hsr:=jX C ir0;have pq:=dz iq;have pr:=dz ir;refine tS amG ?_;intro ts hl g0 g1;have T:=jf C.toOver;have hqi:fk q' ((if na=true then-(val a:Int)else val a)/(if false=true then-(val b:Int)else val b)):=by
  rw[vq]at iq;cases na with
  |false=>simpa using iq
  |true=>
   simp only[if_true,aLs,if_false]at iq⊢;rw[Int.neg_ediv_of_dvd (aSZ.2 Zp),<-Int.natCast_ediv];exact iq
 have wM:=ir0;obtain⟨nq',mq',aq',rfl,axd,aGB,_,aG4⟩:=iq;obtain⟨nr',mr',ar',rfl,axe,aGD,_,aG5⟩:=ir0;unfold alx;simp only[↓aQ,kL,DJ,↓aT,aK,↓reduceIte,aa,ah,ae,Tryz.f103,C1 bo4,aj,aD,aE,aj,Rf,hl,g0,g1,tE,hdv,aL hq,aL hr,aL hm,aL kM,cq,cr,pw,pq,pr,hsr,XZ,agn,(aY axd).2,(aY axe).2];exact⟨_,_,rfl,hqi,wM⟩
end Go.Proofs.YtblnjkjjedanaaaGreatDoor
namespace Go.Proofs.YtblnjkjjedanaaaGreatDoor
open Go Dv
variable{E:Env}[C:Ctx E]
def alp:=eL (eL @Yw @ZZ @ZY @ZX) (eL @aiS @Xi @qp @aiR) (eL @Rf @acT @acQ @acN) (eL @acP @acM @acR @acS)
def aR:=And.intro kL (And.intro DJ alp)
end Go.Proofs.YtblnjkjjedanaaaGreatDoor
namespace Go.Proofs.YtblnjkjjedanaaaGreatDoor
open Go Dv Dv.bV
variable{E:Env}[C:Ctx E]
def Flat(v:AV):Prop:=∀H n,fz H (n+1) v=some (v,[])
theorem fj{H:Hp}{m:Nat}:∀{l:List AV},(∀v∈l,Flat v)->dh (fz H (m+1)) l=some (l.map fun v=>(v,[]))
 |[],_=>rfl
 |x::l,h=>by
  unfold dh;rw[h x (by simp) H m,fj (l:=l) fun v hv=>h v (by simp[hv])];rfl
theorem dH{l:List AV}:(l.map fun v=>(v,([]:List Nat))).flatMap (·.2)=[]:=by
 induction l with
 |nil=>rfl
 |cons x l ih=>simpa using ih
theorem gn{l:List AV}:(l.map fun v=>(v,([]:List Nat))).map (·.1)=l:=by
 induction l with
 |nil=>rfl
 |cons x l ih=>simpa using ih
theorem jQ{H:Hp}{b m s:Nat}{cs:List AV}{st:iH}(h:H[b]?=some (.cells st cs))(hd:st≠ .dead)(hm:cs.length=m*s)(hf:∀v∈cs,Flat v):oG false H [.aI b 0 m s m]=some ([.aJ cs m],[b]):=by
 rw[kV];have h2:aTa (m*s) (List.drop 0 cs)=cs:=by rw[aQh,<-hm,aR7]
 have h3:=kD (n:=39) (off:=0) (len:=m) (esz:=s) (k:=m) h hd (by omega) (by rw[h2];exact fj hf);unfold bW;rw[show bE [AV.aI b 0 m s m]=false by simp[bE,aN]];simp only[aLs,if_false];unfold dh;rw[h3];unfold dh;simp only[gn,dH,aNf,List.map_nil,aNs,aTd,List.append_nil]
theorem VM{H:Hp}{b m s:Nat}{cs:List AV}{st:iH}{y:AV}(h:H[b]?=some (.cells st cs))(hd:st≠ .dead)(hm:cs.length=m*s)(hf:∀v∈cs,Flat v)(hy:Flat y):oG false H [.aI b 0 m s m,y]=some ([.aJ cs m,y],[b]):=by
 rw[kV];have h2:aTa (m*s) (List.drop 0 cs)=cs:=by rw[aQh,<-hm,aR7]
 have h3:=kD (n:=39) (off:=0) (len:=m) (esz:=s) (k:=m) h hd (by omega) (by rw[h2];exact fj hf);unfold bW;rw[show bE [AV.aI b 0 m s m,y]=false by simp[bE,aN]];simp only[aLs,if_false];unfold dh;rw[h3];unfold dh;rw[hy H 39];unfold dh;simp only[gn,dH,aNf,List.map_nil,aNs,aTd,List.append_nil]
def u7(s low:Nat)(v:AV)(H:Hp)(n:Nat)(cs:List AV):Prop:=(n=0/\cs=[]/\v=.aH)∨(0<n/\∃b,low<=b/\b<H.length/\v=.aI b 0 n s n/\H[b]?=some (.cells .live cs))
theorem sK{H:Hp}{a b:Nat}{x y:cG}:(cJ.bM [(a,x),(b,y)]).app H=dP (dP H a x) b y:=rfl
theorem Iu{E:Env}{t s rQ:Nat}{ag:Bool}{z x cs:List AV}{low n:Nat}{v:AV}{H:Hp}(hS:eR E t=some (ag,s,rQ,z))(hs:0<s)(h:u7 s low v H n cs)(tg:cs.length=n*s)(hx:x.length=s)(hxo:x.all b7=true)(hr:(n+1)*rQ<=gq)(hn:n+1<=4611686018427387904)(K0:low<=H.length):
  ∃v' bM,aZ E (H++[cG.cells iH.live x]) (H++[cG.cells iH.live x]).length .append [t,t] [v,.aI H.length 0 1 s 1]=some (v',bM)/\u7 s low v' ((cJ.bM bM).app (H++[cG.cells iH.live x])) (n+1) (cs++x)/\(∀k,k<low->((cJ.bM bM).app (H++[cG.cells iH.live x]))[k]?=H[k]?)/\low<=((cJ.bM bM).app (H++[cG.cells iH.live x])).length:=by
 obtain⟨i,e,ei,h1,h2,h3,h4,h5,h6,h7⟩:=iB hS;obtain⟨cS,isAgg,size,bytes,zero,eQ⟩:=i;simp only at h2;subst h2 h5 h6;have hlen:(H++[cG.cells iH.live x]).length=H.length+1:=by simp
 have tY:vJ (H++[cG.cells iH.live x]) ei false (.aI H.length 0 1 ei.size 1)=some (1,x):=by
  have ht:aTa (1*ei.size) x=x:=by rw[Nat.one_mul,<-hx,aR7]
  simp[vJ,pV,sJ,kf,hx];rw[<-hx];simp
 have hb:aZ E (H++[cG.cells iH.live x]) (H++[cG.cells iH.live x]).length .append [t,t] [v,.aI H.length 0 1 ei.size 1]=fM E (H++[cG.cells iH.live x]) (H++[cG.cells iH.live x]).length false t v (.aI H.length 0 1 ei.size 1):=by simp[aZ,h1]
 rw[hb];unfold fM;simp only[h1,h3,tY];rw[if_neg (by omega),if_neg (by rw[hxo,h7];simp;omega)];rcases h with⟨rfl,rfl,rfl⟩|⟨Ew,b,sG,tz,rfl,zK⟩
 ·simp only;rw[if_pos ⟨by omega,by omega⟩];refine⟨_,_,rfl,?_,?_,?_⟩
  ·right
   refine⟨by omega,_,?_,?_,rfl,?_⟩
   ·rw[hlen];omega
   ·rw[cR,eO];simp
   ·rw[cR,eO,aP5];simp
  ·intro k hk;rw[cR,eO,aS1,aOB (by omega)]
  ·rw[cR,eO];simp;omega
 ·have hgb:(H++[cG.cells iH.live x])[b]?=some (.cells .live cs):=by rw[aOB tz];exact zK
  simp only[hgb];rw[if_neg (by omega),if_pos ⟨trivial,by omega,by omega,by omega⟩];have hpd:dP (H++[cG.cells iH.live x]) b (.cells .dead [])=(H++[cG.cells iH.live x]).set b (.cells .dead []):=eY (by rw[hlen];omega);have uy:((H++[cG.cells iH.live x]).set b (.cells .dead [])).length=(H++[cG.cells iH.live x]).length:=by simp
  refine⟨_,_,rfl,?_,?_,?_⟩
  ·right
   refine⟨by omega,_,?_,?_,rfl,?_⟩
   ·rw[hlen];omega
   ·rw[sK,hpd,<-uy,eO];simp
   ·rw[sK,hpd,<-uy,eO,aQh,<-tg,aR7];simp
  ·intro k hk;rw[sK,hpd,<-uy,eO,aOB (by simp;omega),aN9 (by omega),aOB (by omega)]
  ·rw[sK,hpd,<-uy,eO];simp;omega
theorem gE{E:Env}{t s rQ:Nat}{ag:Bool}{z:List AV}{v:AV}{aM:Nat}(hS:eR E t=some (ag,s,rQ,z))(hz:z.length=s)(hs:0<s)(I7:s<=16777216)(hv:v.cells.length=s):aW E aM t 1 [(0,v)]=some (.aI aM 0 1 s 1,[(aM,.cells .live v.cells)]):=by
 obtain⟨i,e,ei,h1,h2,h3,h4,h5,h6,h7⟩:=iB hS;obtain⟨cS,isAgg,size,bytes,zero,eQ⟩:=i;simp only at h2;subst h2 h5;have hr:iG z 1=z:=by simp[iG]
 simp only[aW,h1,h3,h7,hr];rw[if_pos ⟨hz,hs,by omega⟩];simp[hZ,hv,hz]
theorem Sr{n:Nat}(h:n<=9223372036854775807):aO E 91 [.int .i64 (n:Int)]=some (.str (Lib.decDigits n)):=by refine pE ?_ ayf;rw[C.SX _ _ (by decide)];rw[show ij yh 91 [.int .i64 (n:Int)]=E5 [.int .i64 (n:Int)]by simp[ij,yh]];unfold E5;simp only;rw[if_pos ⟨by omega,by omega⟩];unfold Lib.itoa;rw[if_neg (by omega),aQe]
theorem XG{s:List UInt8}{n:Nat}(h:n<=1000)(hs:s.length<=1000):aO E 92 [.str s,.int .i64 (n:Int)]=some (.str (Lib.repeatL s n)):=by
 refine pE ?_ ayg;rw[C.SX _ _ (by decide)];rw[show ij yh 92 [.str s,.int .i64 (n:Int)]=LV [.str s,.int .i64 (n:Int)]by simp[ij,yh]];unfold LV;simp only
 have:s.length*n<=1000*1000:=aSb hs h
 rw[if_pos ⟨by omega,by omega,by rw[aQe];omega⟩,aQe]
theorem HU:∀{l:List (List UInt8)},HR (l.map AV.str)=some l
 |[]=>rfl
 |x::l=>by rw[aNf,HR,HU];rfl
theorem OL:∀{l:List (List UInt8)},Lib.join l []=l.flatten
 |[]=>rfl
 |x::l=>by
  rw[Lib.join_cons];simp[Lib.joinTail]
theorem Sv{l:List (List UInt8)}(h:2<=l.length)(hl:l.length<=140737488355328)(dM:0<l.flatten.length)(hb:l.flatten.length<=281474976710656):aO E 94 [.aJ (l.map AV.str) l.length,.str []]=some (.str l.flatten):=by refine pE ?_ ayi;rw[C.SX _ _ (by decide)];rw[show ij yh 94 [.aJ (l.map AV.str) l.length,.str []]=Br [.aJ (l.map AV.str) l.length,.str []]by simp[ij,yh]];unfold Br;simp only;rw[if_pos ⟨by simp,h,hl⟩];simp only[HU,OL];rw[if_pos ⟨dM,hb⟩]
theorem yy{s c:List UInt8}(hc:c.all (fun b=>decide (b.toNat<128))=true)(hl:c.length<1000)(hs:s.length<=9223372036854775807):aO E 118 [.str s,.str c]=some (.str (Lib.trimS s c)):=by refine pE ?_ apM;rw[C.SX _ _ (by decide)];rw[show ij yh 118 [.str s,.str c]=E6 [.str s,.str c]by simp[ij,yh]];unfold E6;simp only;rw[if_pos ⟨hc,by omega,hs⟩]
theorem CT{s c:List UInt8}:aO E 117 [.str s,.str c]=some (.str (Lib.trimPrefix s c)):=by refine pE ?_ apL;rw[C.SX _ _ (by decide)];rw[show ij yh 117 [.str s,.str c]=qR [.str s,.str c]by simp[ij,yh]];rfl
theorem DQ{s c:List UInt8}:aO E 156 [.str s,.str c]=some (.tuple [.str (Lib.trimPrefix s c),.bool (Lib.hasPrefix s c)]):=by refine pE ?_ apQ;rw[C.SX _ _ (by decide)];rw[show ij yh 156 [.str s,.str c]=sU [.str s,.str c]by simp[ij,yh]];rfl
theorem E8{s:List UInt8}{u:Nat}(hs:s.length<=9223372036854775806)(h:Lib.parseUintB 32 s=.ok u):aO E 159 [.str s,.int .i64 10,.int .i64 32]=some (.tuple [.int .u64 u,.nilIface]):=by refine pE ?_ apS;rw[C.SX _ _ (by decide)];rw[show ij yh 159 [.str s,.int .i64 10,.int .i64 32]=pZ [.str s,.int .i64 10,.int .i64 32]by simp[ij,yh]];unfold pZ;simp only;rw[if_pos ⟨trivial,trivial,hs⟩,h]
theorem FX{s:List UInt8}(h:s.all (fun b=>decide (48<=b.toNat/\b.toNat<=57))=true)(hs:s.length<=281474976710656):aO E 157 [.str s,.func 158 [] []]=some (.bool false):=by refine pE ?_ apR;rw[C.SX _ _ (by decide)];rw[show ij yh 157 [.str s,.func 158 [] []]=sh 158 [.str s,.func 158 [] []]by simp[ij,yh]];unfold sh;simp only;rw[if_pos ⟨trivial,h,hs⟩]
def rv(cs:List AV):Nat->List AV
 |0=>cs
 |i+1=>((rv cs i).set i ((rv cs i).getD (cs.length-1-i) aX)).set (cs.length-1-i) ((rv cs i).getD i aX)
theorem Bx{cs:List AV}:∀{i:Nat},(rv cs i).length=cs.length
 |0=>rfl
 |i+1=>by rw[rv,aPp,aPp,Bx]
theorem Fs{cs:List AV}:∀{i k:Nat},2*i<=cs.length->k<cs.length->(rv cs i).getD k aX=if k<i∨cs.length-1-i<k then cs.getD (cs.length-1-k) aX else cs.getD k aX
 |0,k,_,hk=>by rw[if_neg (by omega)];rfl
 |i+1,k,h,hk=>by
  have e1:=Fs (cs:=cs) (i:=i) (k:=k) (by omega) hk;have e2:=Fs (cs:=cs) (i:=i) (k:=cs.length-1-i) (by omega) (by omega);have e3:=Fs (cs:=cs) (i:=i) (k:=i) (by omega) (by omega);rw[if_neg (by omega)]at e2 e3;rw[rv,e2,e3];simp only[aSW,List.getElem?_set,aPp,Bx];by_cases h1:cs.length-1-i=k
  ·rw[if_pos h1,if_pos (by omega),if_pos (by omega),show cs.length-1-k=i by omega];rfl
  ·rw[if_neg h1];by_cases h2:i=k
   ·rw[if_pos h2,if_pos (by omega),if_pos (by omega),<-h2];rfl
   ·rw[if_neg h2];simp only[aSW]at e1;rw[e1];by_cases h3:k<i∨cs.length-1-i<k
    ·rw[if_pos h3,if_pos (by omega)]
    ·rw[if_neg h3,if_neg (by omega)]
theorem ajK{cs:List AV}{i:Nat}(h:2*i<=cs.length)(h2:cs.length-1-i<=i):rv cs i=cs.reverse:=by
 refine List.ext_getElem (by rw[Bx,aS6]) fun k h3 h4=>?_
 rw[Bx]at h3;have e:=Fs h h3;rw[List.getElem_reverse];rw[aSW,aMh (by rw[Bx];exact h3),aNt]at e;rw[e];by_cases h5:k<i∨cs.length-1-i<k
 ·rw[if_pos h5,aSW,aMh (by omega),aNt]
 ·rw[if_neg h5,aSW,aMh (by omega),aNt];congr 1;omega
theorem XV{cs:List AV}(h:∀v∈cs,b7 v=true):∀{i:Nat},2*i<=cs.length->∀k,k<cs.length->b7 ((rv cs i).getD k aX)=true:=by
 intro i hi k hk;rw[Fs hi hk]
 split
 ·exact h _ (by rw[aSW,aMh (by omega),aNt];exact aMo _)
 ·exact h _ (by rw[aSW,aMh (by omega),aNt];exact aMo _)
theorem DN{H:Hp}{b o:Nat}{cs:List AV}(hb:b<H.length)(ho:o<cs.length):cellAt (H.set b (.cells .live cs)) b o=some (cs.getD o aX):=by rw[iT];simp[hb,aMh ho]
theorem E1{v:AV}(h:b7 v=true):v.cells=[v]:=by cases v<;>first|rfl|(simp[b7]at h;done)
theorem Mt{H:Hp}{b o:Nat}{cs:List AV}{v:AV}(hb:b<H.length)(ho:o<cs.length)(hv:b7 v=true):mY 1 v.cells (H.set b (.cells .live cs)) b o=some (.cells .live (cs.set o v)):=by
 rw[kR,E1 hv];simp[hb,hv];refine⟨by omega,?_⟩;rw[fV,List.set_eq_take_append_cons_drop,if_pos ho]
 simp
theorem Xz{H:Hp}{b:Nat}{x y:cG}(hb:b<H.length):dP (H.set b x) b y=H.set b y:=by
 rw[eY (by simpa using hb)];simp
theorem Jz{H0:Hp}{b n:Nat}{cs:List AV}(hb:b<H0.length)(h:H0[b]?=some (.cells .live cs))(hn:cs.length=n)(h0:0<n)(tz:n<1000000000000)(ho:∀v∈cs,b7 v=true):
  ∃r H',cL E 93 [.aI b 0 n 1 n] H0=some (r,H')/\H'=H0.set b (.cells .live cs.reverse):=by
 refine gi1 (by rw[C.ud]) (by rw[C.fn];exact avU) (by decide) ?_;intro ts hl g0;have T:=jf C.toOver;unfold c93;have hH0:H0=H0.set b (.cells .live (rv cs 0)):=by obtain⟨gO,hx⟩:=List.getElem?_eq_some_iff.1 h;rw[rv,<-hx,List.set_getElem_self]
 have w1:aV .i64 ((n:Int)-1)=((n-1:Nat):Int):=by rw[wrap_i64 (by omega) (by omega)];omega
 simp only[↓aQ,aR,aK,aa,ae,Tryz.f93,hl,g0,w1];refine fh (fun k_ ts H=>∃i,k_=n-i/\ts.length=28/\gt ts 0=.aI b 0 n 1 n/\gt ts 2=.int .i64 (i:Int)/\gt ts 3=.int .i64 ((n-1-i:Nat):Int)/\H=H0.set b (.cells .live (rv cs i))/\(2*i<=n)) (n) ?_ ?_
 rotate_left
 ·refine⟨0,(by first|omega|rfl|(simp;done)),(by simp only[cK,hl]),?_⟩;simp only[cM,hl,aa,ae,g0]
  iterate 4 refine⟨by first|trivial|rfl|(congr 1;omega)|(simp;done)|(simp;omega),?_⟩
  ·omega
 clear hl g0 ts;rintro k_ ts H ⟨i,rfl,hl,g0,g2,g3,rfl,hi⟩;refine VS ?_;have Si:(rv cs i).length=n:=by rw[Bx,hn]
 by_cases hd:i<n-1-i
 ·have dd:decide ((i:Int)<((n-1-i:Nat):Int))=true:=cF (by omega);have c1:((i:Int)<(n:Int))=True:=eq_true (by omega);have c2:(((n-1-i:Nat):Int)<(n:Int))=True:=eq_true (by omega);have w4:aV .i64 ((i:Int)+1)=((i+1:Nat):Int):=by rw[wrap_i64 (by omega) (by omega)];omega
  have w5:aV .i64 (((n-1-i:Nat):Int)-1)=((n-1-(i+1):Nat):Int):=by rw[wrap_i64 (by omega) (by omega)];omega
  have l1:=DN (H:=H0) (cs:=rv cs i) hb (o:=n-1-i) (by omega);have l2:=DN (H:=H0) (cs:=rv cs i) hb (o:=i) (by omega);have o1:=XV ho (i:=i) (by omega) (n-1-i) (by omega);have o2:=XV ho (i:=i) (by omega) i (by omega);have qP:rv cs (i+1)=((rv cs i).set i ((rv cs i).getD (n-1-i) aX)).set (n-1-i) ((rv cs i).getD i aX):=by rw[rv,hn]
  generalize(rv cs i).getD (n-1-i) aX=x at*;generalize(rv cs i).getD i aX=y at*;have s1:=Mt (H:=H0) (cs:=rv cs i) (v:=x) hb (o:=i) (by omega) o1;have s2:=Mt (H:=H0) (cs:=(rv cs i).set i x) (v:=y) hb (o:=n-1-i) (by rw[aPp];omega) o2;have p1:=fun x y=>Xz (x:=x) (y:=y) hb
  simp only[↓aQ,aR,aK,↓reduceIte,aa,ah,ae,hl,g0,g2,g3,dd,c1,c2,w4,w5,l1,l2,s1,s2,p1];rw[<-qP];refine dO ?_;refine⟨_,?_,i+1,rfl,(by simp only[cK,hl]),?_⟩
  ·first|omega|(simp;omega)
  simp only[cM,hl,aa,ae,g0]
  iterate 4 refine⟨by first|trivial|rfl|(congr 1;omega)|(simp;done)|(simp;omega),?_⟩
  ·omega
 ·have dd:decide ((i:Int)<((n-1-i:Nat):Int))=false:=cH (by omega);simp only[↓aQ,aR,↓reduceIte,aa,ae,hl,g2,g3,dd];rw[ajK (by omega) (by omega)]
def CG:Nat->Nat->List UInt8
 |0,_=>[]
 |k+1,u=>CG k (u/10)++[UInt8.ofNat (48+u%10)]
theorem DR{u:Nat}(h:¬u<10):Lib.decDigits u=Lib.decDigits (u/10)++[UInt8.ofNat (48+u%10)]:=by rw[Lib.decDigits,dif_neg h]
theorem KA:∀(k q r:Nat),r<10^k->0<q->Lib.decDigits (q*10^k+r)=Lib.decDigits q++CG k r
 |0,q,r,h,hq=>by
  have:r=0:=by simpa using h
  subst this;simp[CG]
 |k+1,q,r,h,hq=>by
  have hp:0<10^k:=Nat.pow_pos (by omega);rw[aQi]at h⊢;have h10:10<=q*(10^k*10):=by
   have:1*(1*10)<=q*(10^k*10):=aSb hq (aSb hp (Nat.le_refl _))
   omega
  have e:q*(10^k*10)=10*(q*10^k):=by ac_rfl
  rw[DR (by omega),e,show(10*(q*10^k)+r)/10=q*10^k+r/10 by omega,show(10*(q*10^k)+r)%10=r%10 by omega,KA k q (r/10) (by omega) hq,CG,aS1]
theorem GL:∀k,CG k 0=aK6 k 48
 |0=>rfl
 |k+1=>by
  rw[CG,Nat.zero_div,GL k,List.replicate_succ'];rfl
theorem Vd:∀(k r:Nat),0<k->r<10^k->CG k r=aK6 (k-Lib.nDigits r) 48++Lib.decDigits r
 |0,r,h,_=>by omega
 |k+1,r,_,h=>by
  by_cases hr:r<10
  ·rw[CG,aS2 hr,GL,Lib.nDigits_small hr,Lib.decDigits_one hr,aRk hr];rfl
  ·rw[aQi]at h;have hk:0<k:=by
    refine aSh fun e=>?_
    subst e;omega
   rw[CG,Vd k (r/10) hk (by omega),Lib.nDigits_big hr,DR hr,aS1,show k+1-(Lib.nDigits (r/10)+1)=k-Lib.nDigits (r/10)by omega]
theorem uQ:∀(k u:Nat),0<k->u<10^k->Lib.nDigits u<=k
 |0,u,h,_=>by omega
 |k+1,u,_,h=>by
  by_cases hr:u<10
  ·rw[Lib.nDigits_small hr];omega
  ·rw[aQi]at h;have hk:0<k:=by
    refine aSh fun e=>?_
    subst e;omega
   rw[Lib.nDigits_big hr]
   have:=uQ k (u/10) hk (by omega)
   omega
theorem arp(n:Nat):Lib.repeatL [48] n=aK6 n 48:=by
 have:=Lib.repeatL_replicate 48 1 n
 simpa using this
theorem PV{l:List Nat}(h:∀d∈l,d<4294967296):val l<10^(10*l.length):=by have h1:=o8 h;refine Nat.lt_of_lt_of_le h1 ?_;rw[Nat.pow_mul];exact aS7 (by decide) _
theorem OK{s:List UInt8}:aO E 94 [.aJ [.str s] 1,.str []]=some (.str s):=by refine ep ?_;refine gv2 (by rw[C.SX _ _ (by decide)];simp[ij,yh,Br]) (by rw[C.fn];exact avV) rfl (by decide) ?_;intro ts hl g0 g1;unfold c94;have hp:iR false 1 [AV.str s] 0=some (.str s):=rfl;simp only[↓aQ,aR,aK,↓reduceIte,aa,ae,an,ao,aq,Tryz.f94,aD,hl,g0,hp]
theorem C0{E:Env}{c:Bool}{t:Nat}{a b:List UInt8}(h:a.length+b.length<=9223372036854775807):dy E c .add t (.str a) (.str b)=some (.str (a++b)):=by
 show Yi .add a b=_
 unfold Yi;simp only;rw[if_neg (by omega)]
theorem uf{s:List UInt8}:bJ (.str s)=true:=rfl
theorem bsS{aM:Nat}{s:List UInt8}:aW E aM 54 1 [(0,.str s)]=some (.aI aM 0 1 1 1,[(aM,.cells .live [.str s])]):=gE Tk rfl (by decide) (by decide) rfl
theorem HV{v:AV}{z:Int}(h:fk v z)(fx:Fit z):aO E 51 [v]=some (.str (Lib.itoa z)):=by
 refine ep ?_;obtain⟨na,m,a,rfl,hm,hn,th,rfl⟩:=h;have la:=wj hn oQ fx;refine mO avm ?_;intro ts hl g0;have T:=jf C.toOver;unfold c51;by_cases h0:a=[]
 ·subst h0;have hna:na=false:=by cases na with
   |false=>rfl
   |true=>exact absurd rfl (th rfl)
  subst hna;simp only[↓aQ,aR,aK,↓reduceIte,aa,ae,Tryz.f51,hl,g0,gV hm];simp[val,Lib.itoa,Lib.decDigits]
 have ha:0<a.length:=aSX.2 h0;have Oj:((a.length:Int)==0)=false:=by rw[beq_eq_false_iff_ne];omega
 simp only[↓aQ,aR,aK,aa,ae,Tryz.f51,hl,g0,gV hm,Oj];refine fh (fun k_ ts H=>∃cv cl w HH G,k_=0+val cl/\ts.length=49/\gt ts 1=.b6 0 0/\gt ts 3=w/\gt ts 4=cv/\H=HH/\(fG cv cl)/\(Norm cl)/\(cl.length<10000000000)/\(u7 1 1 w HH G.length (G.map AV.str))/\(HH[0]?=some (.cells .live [.bool na,m]))/\(1<=HH.length)/\(val cl*1000000000^G.length<=val a)/\(cl≠[]->Lib.decDigits (val a)=Lib.decDigits (val cl)++G.reverse.flatten)/\(cl=[]->Lib.decDigits (val a)=G.reverse.flatten/\G≠[])/\(G.length<=2*a.length)) (val a) ?_ ?_
 rotate_left
 ·refine⟨m,a,.aH,[.cells .live [.bool na,m]],[],(by first|omega|rfl|(simp;done)),(by simp only[cK,hl]),?_⟩;simp only[cM,hl,aa,ae]
  iterate 4 refine⟨by first|trivial|rfl|(congr 1;omega)|(simp;done)|(simp;omega),?_⟩
  refine⟨?_,?_,?_,?_,?_,?_,?_,?_,?_,?_⟩
  ·exact hm
  ·exact hn
  ·exact la
  ·exact .inl ⟨rfl,rfl,rfl⟩
  ·rfl
  ·simp
  ·simp
  ·intro _;simp
  ·intro e;exact absurd e h0
  ·simp
 clear hl g0 ts;rintro k_ ts H ⟨cv,cl,w,HH,G,rfl,hl,g1,g3,g4,rfl,KV,ncl,lcl,lJ,C6,hlen,hpw,Oy,htz,hgl⟩;refine VS ?_;have G0:cellAt H 0 1=some m:=by rw[iT,C6];simp
 have JY:cellAt H 0 0=some (.bool na):=by rw[iT,C6];simp
 by_cases T1:cl=[]
 ·subst T1;obtain⟨aik,axU⟩:=htz rfl;have hdc:decide (((([]:List Nat).length:Nat):Int)>0)=false:=rfl;have hGp:0<G.length:=aSX.2 axU;rcases lJ with⟨hG0,_⟩|⟨hG0,b,sG,tz,rfl,zK⟩
  ·omega
  have sH:∀v∈G.map AV.str,b7 v=true:=by intro v hv;obtain⟨s,_,rfl⟩:=List.mem_map.1 hv;rfl
  obtain⟨r,H',aph,rfl⟩:=Jz (E:=E) tz zK (by simp) hGp (by omega) sH;have awx:(H.set b (.cells .live (G.map AV.str).reverse))[0]?=some (.cells .live [.bool na,m]):=by rw[aN9 (by omega)];exact C6
  have ahI:cellAt (H.set b (.cells .live (G.map AV.str).reverse)) 0 0=some (.bool na):=by rw[iT,awx];simp
  have gf:oG false (H.set b (.cells .live (G.map AV.str).reverse)) [.aI b 0 G.length 1 G.length,.str []]=some ([.aJ (G.map AV.str).reverse G.length,.str []],[b]):=by
   refine VM (y:=.str []) (st:=.live) (by rw[List.getElem?_set_self tz]) (by decide) (by simp) ?_ (fun _ _=>rfl);intro v hv;obtain⟨s,_,rfl⟩:=List.mem_map.1 (List.mem_reverse.1 hv);exact fun _ _=>rfl
  have Zo:(Lib.decDigits (val a)).length<=10*a.length:=by rw[Lib.decDigits_length];exact uQ _ _ (by omega) (PV hm.1)
  have QH:0<(Lib.decDigits (val a)).length:=by rw[Lib.decDigits_length];exact Lib.nDigits_pos _
  have aeK:aO E 94 [.aJ (G.map AV.str).reverse G.length,.str []]=some (.str (Lib.decDigits (val a))):=by
   rw[aik];by_cases h1:G.length=1
   ·obtain⟨s,rfl⟩:=List.length_eq_one_iff.1 h1;simpa using OK (E:=E) (s:=s)
   ·have:=Sv (E:=E) (l:=G.reverse) (by simp;omega) (by simp;omega) (by rw[<-aik];exact QH) (by rw[<-aik];omega)
    rw[List.map_reverse,aS6]at this;exact this
  have J2:cellAt (cJ.app (H.set b (.cells .live (G.map AV.str).reverse)) (cJ.looks [b])) 0 0=some (.bool na):=ahI;cases na with
  |false=>
   simp only[↓aQ,aR,↓aT,aK,↓reduceIte,aa,ae,ar,hl,g1,g3,g4,gV KV,aph,gf,aeK,ahI,uf];unfold Lib.itoa;rw[if_neg (by simp),aQe]
  |true=>
   have hva:0<val a:=uZ hn h0;have Of:∀{c:Bool} {t:Nat},dy E c .add t (.str [45]) (.str (Lib.decDigits (val a)))=some (.str ([45]++Lib.decDigits (val a))):=by intro c t;refine C0 ?_;simp only[aMn,aP3];omega
   simp only[↓aQ,aR,↓aT,aK,↓reduceIte,aa,ae,ar,hl,g1,g3,g4,gV KV,aph,gf,aeK,ahI,uf,Of];unfold Lib.itoa;rw[if_pos (by omega)];congr 3;omega
 ·have J5:=uZ ncl T1;have aFR:0<cl.length:=aSX.2 T1;have hdc:decide (((cl.length:Nat):Int)>0)=true:=cF (by omega);obtain⟨r0,Ey,ql,hq,hqn,Ou⟩:=Fv C KV (by omega) (m:=1000000000) (by omega) (by omega);rw[show((1000000000:Nat):Int)=1000000000 from rfl]at Ey;have hr9:val cl%1000000000<1000000000:=aRY _ (by omega);have wr:aV .i64 ((val cl%1000000000:Nat):Int)=((val cl%1000000000:Nat):Int):=rG (by omega);have hit:=Sr (E:=E) (n:=val cl%1000000000) (by omega);have hnd:=uQ 9 (val cl%1000000000) (by omega) (by omega);have hnp:=Lib.nDigits_pos (val cl%1000000000);have Zo:=Lib.decDigits_length (val cl%1000000000);have QG:=Nat.div_add_mod (val cl) 1000000000;have Az:1000000000^G.length<=val a:=aNR (Nat.le_mul_of_pos_left _ J5) hpw;have TY:G.length<2*a.length:=by
   have h1:=o8 hm.1;have h2:65536^G.length<=1000000000^G.length:=aS7 (by omega) _;have h3:(4294967296:Nat)^a.length=65536^(2*a.length):=by rw[Nat.pow_mul]
   rw[h3]at h1;exact(aR8 (by omega)).1 (aR2 h2 (aR2 Az h1))
  have ah8:10^9=1000000000:=rfl;have M1:ql.length<10000000000:=by
   have:=pz KV.1 hqn (by rw[Ou];exact Nat.div_le_self _ _)
   omega
  have apb:val ql*1000000000^(G.length+1)<=val a:=by refine aNR ?_ hpw;rw[Ou,aQi,Nat.mul_comm (1000000000^G.length),<-Nat.mul_assoc];exact aL8 _ (Nat.div_mul_le_self _ _)
  have apx:=Oy T1;by_cases aba:ql=[]
  ·subst aba;have Wg:decide (((([]:List Nat).length:Nat):Int)>0)=false:=rfl;have hq0:val cl/1000000000=0:=by rw[<-Ou];rfl
   have Ez:val cl%1000000000=val cl:=aRk (by omega);obtain⟨v',bM,gT,vh,xM,B8⟩:=Iu (E:=E) (H:=H) (x:=[.str (Lib.decDigits (val cl%1000000000))]) Tk (by decide) lJ (by simp) rfl rfl (by unfold gq;omega) (by omega) hlen;simp only[↓aQ,aR,↓aT,aK,↓reduceIte,aa,ae,↓gL gU kd3,ar,hl,g3,g4,gV KV,gV hq,aL KV,hdc,Ey,hit,wr,uf,bsS,eO,gT];generalize cJ.app _ (cJ.bM bM)=H2 at vh xM B8⊢;refine dO ?_;refine⟨_,?_,r0,[],v',H2,G++[Lib.decDigits (val cl%1000000000)],rfl,(by simp only[cK,hl]),?_⟩
   ·first|omega|(simp;omega)
   simp only[cM,hl,aa,ae,g1]
   iterate 4 refine⟨by first|trivial|rfl|(congr 1;omega)|(simp;done)|(simp;omega),?_⟩
   refine⟨?_,?_,?_,?_,?_,?_,?_,?_,?_,?_⟩
   ·exact hq
   ·exact hqn
   ·simp
   ·simpa using vh
   ·rw[xM 0 (by omega)];exact C6
   ·exact B8
   ·simpa using apb
   ·intro e;exact absurd trivial e
   ·intro _;refine⟨?_,by simp⟩;rw[apx,Ez]
    simp
   ·simp;omega
  ·have hqp:0<ql.length:=aSX.2 aba;have axw:=uZ hqn aba;have Wg:decide (((ql.length:Nat):Int)>0)=true:=cF (by omega);have hdg:=Vd 9 (val cl%1000000000) (by omega) (by omega);have ws:aV .i64 (9-((Lib.decDigits (val cl%1000000000)).length:Int))=((9-Lib.nDigits (val cl%1000000000):Nat):Int):=by rw[Zo,wrap_i64 (by omega) (by omega)];omega
   have apg:=XG (E:=E) (s:=[48]) (n:=9-Lib.nDigits (val cl%1000000000)) (by omega) (by simp);rw[arp]at apg;have Of:∀{c:Bool} {t:Nat},dy E c .add t (.str (aK6 (9-Lib.nDigits (val cl%1000000000)) 48)) (.str (Lib.decDigits (val cl%1000000000)))=some (.str (CG 9 (val cl%1000000000))):=by intro c t;rw[hdg];refine C0 ?_;rw[Zo,List.length_replicate];omega
   obtain⟨v',bM,gT,vh,xM,B8⟩:=Iu (E:=E) (H:=H) (x:=[.str (CG 9 (val cl%1000000000))]) Tk (by decide) lJ (by simp) rfl rfl (by unfold gq;omega) (by omega) hlen;have yK:=KA 9 (val ql) (val cl%1000000000) (by omega) axw;rw[show val ql*10^9+val cl%1000000000=val cl by rw[Ou];omega]at yK;simp only[↓aQ,aR,↓aT,aK,↓reduceIte,aa,ae,↓gL gU kd3,hl,g3,g4,gV KV,gV hq,aL KV,hdc,Wg,Ey,hit,wr,ws,apg,Of,uf,bsS,eO,gT];generalize cJ.app _ (cJ.bM bM)=H2 at vh xM B8⊢;refine dO ?_;refine⟨_,?_,r0,ql,v',H2,G++[CG 9 (val cl%1000000000)],rfl,(by simp only[cK,hl]),?_⟩
   ·first|omega|(simp;omega)
   simp only[cM,hl,aa,ae,g1]
   iterate 4 refine⟨by first|trivial|rfl|(congr 1;omega)|(simp;done)|(simp;omega),?_⟩
   refine⟨?_,?_,?_,?_,?_,?_,?_,?_,?_,?_⟩
   ·exact hq
   ·exact hqn
   ·exact M1
   ·simpa using vh
   ·rw[xM 0 (by omega)];exact C6
   ·exact B8
   ·simpa using apb
   ·intro _;rw[apx,yK]
    simp
   ·intro e;exact absurd e aba
   ·simp;omega
def kP(b:UInt8):Bool:=decide (48<=b.toNat/\b.toNat<=57)
def dv(acc:Nat)(l:List UInt8):Nat:=l.foldl (fun a c=>a*10+(c.toNat-48)) acc
theorem DZ{acc:Nat}:dv acc []=acc:=rfl
theorem uI{acc:Nat}{c:UInt8}{r:List UInt8}:dv acc (c::r)=dv (acc*10+(c.toNat-48)) r:=by unfold dv;rw[List.foldl_cons]
theorem GN{a b:List UInt8}:∀{acc:Nat},dv acc (a++b)=dv (dv acc a) b:=by intro acc;unfold dv;rw[List.foldl_append]
theorem DY:∀{l:List UInt8} {acc:Nat},dv acc l=acc*10^l.length+dv 0 l
 |[],acc=>by simp[DZ]
 |c::r,acc=>by
  rw[uI,uI,DY (l:=r),DY (l:=r) (acc:=0*10+(c.toNat-48)),aMn,aQi,Nat.zero_mul,aMg,Nat.add_mul]
  have:acc*10*10^r.length=acc*(10^r.length*10):=by ac_rfl
  omega
theorem Qs:∀{l:List UInt8},(∀b∈l,kP b=true)->dv 0 l<10^l.length
 |[],_=>by simp[DZ]
 |c::r,h=>by
  have h1:=Qs (l:=r) fun b hb=>h b (by simp[hb])
  have h2:=h c (by simp);simp only[kP,decide_eq_true_eq]at h2;rw[uI,DY,aMn,aQi,Nat.zero_mul,aMg]
  have:(c.toNat-48)*10^r.length<=9*10^r.length:=aL8 _ (by omega)
  omega
theorem aef:∀{l:List UInt8} {acc:Nat},acc<=dv acc l
 |[],_=>Nat.le_refl _
 |c::r,acc=>aNR (by omega) (aef (l:=r) (acc:=acc*10+(c.toNat-48)))
theorem Hs{M:Nat}(hM:M<1844674407370955162):∀{l:List UInt8} {acc:Nat},(∀b∈l,kP b=true)->dv acc l<=M->Lib.parseUintM M acc l=.ok (dv acc l)
 |[],_,_,_=>rfl
 |c::r,acc,h,hle=>by
  have h2:=h c (by simp);simp only[kP,decide_eq_true_eq]at h2;rw[uI]at hle⊢;have h3:=aef (l:=r) (acc:=acc*10+(c.toNat-48));unfold Lib.parseUintM;rw[if_pos h2,if_neg (by omega),if_neg (by omega)];exact Hs hM (fun b hb=>h b (by simp[hb])) hle
theorem SZ{l:List UInt8}(h:∀b∈l,kP b=true)(dM:l≠[])(hl:l.length<=9):Lib.parseUintB 32 l=.ok (dv 0 l):=by unfold Lib.parseUintB;rw[if_neg dM];refine Hs (by decide) h ?_;have h1:=Qs h;have h2:10^l.length<=10^9:=aRX (by omega) hl;omega
theorem IL:∀(n:Nat),∀b∈Lib.decDigits n,kP b=true:=by
 intro n;induction n using aS3 with
 |_ n ih=>
  intro b hb;by_cases h:n<10
  ·rw[Lib.decDigits_one h]at hb;simp only[aNq]at hb;subst hb;simp only[kP,UInt8.toNat_ofNat',decide_eq_true_eq];omega
  ·rw[DR h]at hb;rcases List.mem_append.1 hb with h1|h1
   ·exact ih _ (by omega) b h1
   ·simp only[aNq]at h1;subst h1;simp only[kP,UInt8.toNat_ofNat',decide_eq_true_eq];omega
theorem Qr:∀(n:Nat),dv 0 (Lib.decDigits n)=n:=by
 intro n;induction n using aS3 with
 |_ n ih=>
  by_cases h:n<10
  ·rw[Lib.decDigits_one h];simp only[uI,DZ,UInt8.toNat_ofNat'];omega
  ·rw[DR h,GN,ih _ (by omega)];simp only[uI,DZ,UInt8.toNat_ofNat'];omega
theorem Qn:∀(n:Nat),0<n->(Lib.decDigits n).head?≠some 48:=by
 intro n;induction n using aS3 with
 |_ n ih=>
  intro hn;by_cases h:n<10
  ·rw[Lib.decDigits_one h];intro e;simp only[aSY,Option.some.injEq]at e
   have:=congrArg UInt8.toNat e
   simp only[UInt8.toNat_ofNat']at this;have h48:(48:UInt8).toNat=48:=rfl;omega
  ·rw[DR h];have h1:=ih (n/10) (by omega) (by omega);have dM:Lib.decDigits (n/10)≠[]:=by
    intro e
    have:=congrArg List.length e
    rw[Lib.decDigits_length]at this
    have:=Lib.nDigits_pos (n/10)
    simp at*;omega
   rw[List.head?_append];obtain⟨x,xs,hx⟩:=aS0 dM;rw[hx]at h1⊢;simp only[aSY,Option.some_or]at h1⊢;exact h1
noncomputable def Jw:Code:=qH 5 FU
theorem S0:FU=.seq (sb FU) (.seq (sb (qH 1 FU)) (.seq (sb (qH 2 FU)) (.seq (sb (qH 3 FU)) (.seq (sb (qH 4 FU)) Jw)))):=by kernel_rfl
theorem lD{E:Env}{c:Bool}{t:Nat}{a b:List UInt8}:dy E c .eql t (.str a) (.str b)=some (.bool (a==b)):=rfl
theorem C2{E:Env}{c:Bool}{t:Nat}{a b:List UInt8}:dy E c .neq t (.str a) (.str b)=some (.bool (!(a==b))):=rfl
theorem Qe{n k:Nat}{i:IntKind}(h:k<=n):gG n n none (some (.int i (k:Int)))=some (0,k):=by unfold gG hiE asNat;simp only;rw[if_pos ⟨by omega,by omega⟩];simp[loE]
theorem Ix{n k:Nat}{i:IntKind}(h:k<=n):gG n n (some (.int i (k:Int))) none=some (k,n):=by
 unfold gG hiE;simp only;unfold loE asNat;simp only;rw[if_pos ⟨by omega,by omega⟩]
 simp
theorem Pe{d0:List UInt8}(hd:∀b∈d0,kP b=true)(M0:d0.length<=65536){neg:Bool}{G:AV->Prop}(hG:∀x,fk x (if neg=true then-(dv 0 d0:Int)else dv 0 d0)->G (.tuple [x,.int .i64 0])){ts:List AV}(hl:ts.length=71)(g2:gt ts 2=.b6 0 0)(g4:gt ts 4=.str d0)(g5:gt ts 5=.bool neg):
  V E Jw ts [.cells .live [.bool false,.aH]] (mS E [.cell 2 60,.tmp 3] G):=by
 refine VS ?_;have T:=jf C.toOver;unfold Jw
 dsimp only[qH,sb,FU,Tryz.f119]
 have Ev:fG .aH []:=⟨by simp,.inr ⟨rfl,.inl rfl⟩⟩;simp only[↓aQ,aR];refine fh (fun k_ ts H=>∃d mv ml,k_=0+d.length/\ts.length=71/\gt ts 2=.b6 0 0/\gt ts 4=.str d/\gt ts 5=.bool neg/\gt ts 6=mv/\H=[.cells .live [.bool false,.aH]]/\(∀b∈d,kP b=true)/\(fG mv ml)/\(Norm ml)/\(ml.length+d.length<=d0.length)/\(dv (val ml) d=dv 0 d0)) (d0.length) ?_ ?_
 rotate_left
 ·refine⟨d0,.aH,[],(by first|omega|rfl|(simp;done)),(by simp only[cK,hl]),?_⟩;simp only[cM,hl,aa,ae,g2,g4,g5]
  iterate 5 refine⟨by first|trivial|rfl|(congr 1;omega)|(simp;done)|(simp;omega),?_⟩
  refine⟨?_,?_,?_,?_,?_⟩
  ·exact hd
  ·exact Ev
  ·intro a b c;simp at c
  ·simp
  ·rfl
 clear hl g2 g4 g5 ts;rintro k_ ts H ⟨d,mv,ml,rfl,hl,g2,g4,g5,g6,rfl,T2,hml,J3,hlen,hv⟩;refine VS ?_;by_cases Oj:d=[]
 ·subst Oj;rw[DZ]at hv;obtain⟨r,hr,wM⟩:=ka C hml (by simp at hlen;omega) neg;have lW:=ed hr;rw[hv]at wM;obtain⟨nn,m2,l2,rfl,FG,_,_,_⟩:=id wM;simp only[↓aQ,aR,↓aT,aK,↓reduceIte,aa,ah,ae,ar,hl,g2,g4,g5,g6,aL hml,lW,aL FG,(aY FG).2];exact hG _ wM
 ·have QH:0<d.length:=aSX.2 Oj;obtain⟨k,hk⟩:∃k,k=(d.length-1)%9+1:=⟨_,rfl⟩;have Ol:k<=d.length:=by
   have:=Nat.mod_le (d.length-1) 9
   omega
  have hk9:k<=9:=by
   have:=aRY (d.length-1) (show 0<9 by omega)
   omega
  have dc:decide ((d.length:Int)>0)=true:=cF (by omega);have w1:aV .i64 ((d.length:Int)-1)=((d.length-1:Nat):Int):=by rw[wrap_i64 (by omega) (by omega)];omega
  have axA:∀{c:Bool} {t:Nat},dy E c .rem t (.int .i64 ((d.length-1:Nat):Int)) (.int .i64 9)=some (.int .i64 (((d.length-1)%9:Nat):Int)):=by intro c t;exact qL (b:=9) (by omega)
  have w2:aV .i64 ((((d.length-1)%9:Nat):Int)+1)=(k:Int):=by rw[wrap_i64 (by omega) (by omega)];omega
  simp only[↓aQ,aR,aK,aa,ae,hl,g4,dc,w1,axA,w2];refine fh (fun k_ ts H=>∃i,k_=k-i/\ts.length=71/\gt ts 2=.b6 0 0/\gt ts 4=.str d/\gt ts 5=.bool neg/\gt ts 6=mv/\gt ts 7=.int .i64 (k:Int)/\gt ts 8=.int .u32 ((10^i:Nat):Int)/\gt ts 47=.int .i64 (k:Int)/\gt ts 48=.int .i64 (i:Int)/\H=[.cells .live [.bool false,.aH]]/\(i<=k)) (k) ?_ ?_
  rotate_left
  ·refine⟨0,(by first|omega|rfl|(simp;done)),(by simp only[cK,hl]),?_⟩;simp only[cM,hl,aa,ae,g2,g4,g5,g6]
   iterate 9 refine⟨by first|trivial|rfl|(congr 1;omega)|(simp;done)|(simp;omega),?_⟩
   ·omega
  clear hl g2 g4 g5 g6 ts;rintro k_ ts H ⟨i,rfl,hl,g2,g4,g5,g6,g7,g8,g47,g48,rfl,hik⟩;refine VS ?_;by_cases hi:i<k
  ·have di:decide ((i:Int)<(k:Int))=true:=cF (by omega);have hp:10^(i+1)<=10^9:=aRX (by omega) (by omega);have w3:aV .u32 (((10^i:Nat):Int)*10)=((10^(i+1):Nat):Int):=by rw[aQi]at hp⊢;rw[rH];omega
   have w4:aV .i64 ((i:Int)+1)=((i+1:Nat):Int):=by rw[wrap_i64 (by omega) (by omega)];omega
   simp only[↓aQ,aR,aa,ae,hl,g8,g47,g48,di,w3,w4];refine dO ?_;refine⟨_,?_,i+1,rfl,(by simp only[cK,hl]),?_⟩
   ·first|omega|(simp;omega)
   simp only[cM,hl,aa,ae,g2,g4,g5,g6,g7,g47]
   iterate 9 refine⟨by first|trivial|rfl|(congr 1;omega)|(simp;done)|(simp;omega),?_⟩
   ·omega
  ·have di:decide ((i:Int)<(k:Int))=false:=cH (by omega);obtain rfl:i=k:=by omega
   have htd:∀b∈d.take i,kP b=true:=fun b hb=>T2 b (List.mem_of_mem_take hb)
   have htl:(d.take i).length=i:=by rw[List.length_take];omega
   have htv:=Qs htd;rw[htl]at htv;have hp9:10^i<=10^9:=aRX (by omega) (by omega);have hpu:=E8 (E:=E) (s:=d.take i) (by omega) (SZ htd (by intro e;rw[e]at htl;simp at htl;omega) (by omega));have b1:=Qe (n:=d.length) (k:=i) (i:=.i64) Ol;have b2:=Ix (n:=d.length) (k:=i) (i:=.i64) Ol;have w5:aV .u32 ((dv 0 (d.take i):Nat):Int)=((dv 0 (d.take i):Nat):Int):=by rw[wrap_u32,aRk (by omega)]
   obtain⟨sv,vL,sl,hsm,hsn,apr,aCs⟩:=Pt C hml (by omega) (m:=10^i) (p:=dv 0 (d.take i)) (by omega) (by omega);have axO:aTa (d.length-i) (d.drop i)=d.drop i:=List.take_of_length_le (by simp);simp only[↓aQ,aR,↓aT,aK,↓reduceIte,aa,ae,↓gL jT gU,hl,g4,g6,g7,g8,g47,g48,di,b1,b2,hpu,w5,vL,aL hml,Nat.sub_zero,axO];refine dO ?_;refine⟨_,?_,d.drop i,sv,sl,rfl,(by simp only[cK,hl]),?_⟩
   ·first|omega|(simp;omega)
   simp only[cM,hl,aa,ae,g2,g5]
   iterate 5 refine⟨by first|trivial|rfl|(congr 1;omega)|(simp;done)|(simp;omega),?_⟩
   refine⟨?_,?_,?_,?_,?_⟩
   ·exact fun b hb=>T2 b (List.mem_of_mem_drop hb)
   ·exact hsm
   ·exact hsn
   ·rw[List.length_drop];omega
   ·rw[apr,<-hv];have h1:d=d.take i++d.drop i:=(aSe i d).symm;have h2:dv (val ml) d=dv (dv (val ml) (d.take i)) (d.drop i):=by rw[<-GN,<-h1]
    rw[h2,DY (l:=d.take i) (acc:=val ml),htl]
def sF(neg:Bool)(d:List UInt8):Bool:=d.head?==some 48&&(decide (1<d.length)||neg)
theorem E9{s:List UInt8}(hs:s.length<=65536)(hd:∀b∈Lib.trimPrefix s [45],kP b=true)(dM:Lib.trimPrefix s [45]≠[]):
  ∃r c,aO E 119 [.str s]=some (.tuple [r,.int .i64 c])/\(sF (Lib.hasPrefix s [45]) (Lib.trimPrefix s [45])=true->c=3/\r=.agg [.bool false,.aH])/\(sF (Lib.hasPrefix s [45]) (Lib.trimPrefix s [45])=false->c=0/\fk r (if Lib.hasPrefix s [45]=true then-(dv 0 (Lib.trimPrefix s [45]):Int)else dv 0 (Lib.trimPrefix s [45]))):=by
 have B6:=DQ (E:=E) (s:=s) (c:=[45]);have Zo:(Lib.trimPrefix s [45]).length<=s.length:=by
  unfold Lib.trimPrefix
  split<;>simp
 generalize Lib.trimPrefix s [45]=d at*;generalize Lib.hasPrefix s [45]=neg at*
 suffices hh:∃u,aO E 119 [.str s]=some u/\∃r c,u=.tuple [r,.int .i64 c]/\(sF neg d=true->c=3/\r=.agg [.bool false,.aH])/\(sF neg d=false->c=0/\fk r (if neg=true then-(dv 0 d:Int)else dv 0 d))by
  obtain⟨u,h1,r,c,rfl,h2⟩:=hh;exact⟨r,c,h1,h2⟩
 have jr:=fun(G:AV->Prop) hG (ts:List AV) hl g2 g4 g5=>Pe (E:=E) hd (by omega) (neg:=neg) (G:=G) hG (ts:=ts) hl g2 g4 g5
 refine mO amQ ?_;intro ts hl g0;have T:=jf C.toOver;rw[S0];generalize Jw=D at jr⊢
 dsimp only[qH,sb,FU,Tryz.f119]
 obtain⟨c,r,rfl⟩:=aS0 dM;have dl:decide ((s.length:Int)>65536)=false:=cH (by omega);have he:(c::r==([]:List UInt8))=false:=rfl;have tf:(c::r).all (fun b=>decide (48<=b.toNat/\b.toNat<=57))=true:=List.all_eq_true.2 fun b hb=>hd b hb
 have aaV:=FX (E:=E) tf (by omega);have FF:qm E 9 (.str (c::r)) (.int .i64 0)=some (.int .u8 c.toNat):=WN (i:=0) st9 rfl;by_cases h48:c=48
 ·have T1:((c.toNat:Nat):Int)=48:=by rw[h48];decide
  rw[T1]at FF;have h49:(some c==some (48:UInt8))=true:=by rw[h48];decide
  by_cases hr:r=[]
  ·subst hr;have hbd:∀n,sF n [c]=n:=by intro n;simp only[sF,aSY,h49,aMn,aP3,aMg,Nat.lt_irrefl,decide_false,Bool.false_or,Bool.true_and]
   have dr:decide ((([c]:List UInt8).length:Int)>1)=false:=cH (by simp);cases neg with
   |true=>
    have Og:=hbd true;simp only[↓aQ,aR,↓aT,aK,↓reduceIte,aa,ah,ae,ar,hl,g0,dl,B6,lD,he,aaV,FF];exact⟨_,_,rfl,fun _=>⟨rfl,rfl⟩,fun e=>absurd (Og.symm.trans e) (by decide)⟩
   |false=>
    have Og:=hbd false;simp only[↓aQ,aR,↓aT,aK,↓reduceIte,aa,ae,ar,hl,g0,dl,B6,lD,he,aaV,FF];refine jr _ (fun x hx=>⟨x,0,rfl,fun e=>absurd (Og.symm.trans e) (by decide),fun _=>⟨rfl,hx⟩⟩) _ (by simp only[cK,hl]) ?_ ?_ ?_
    all_goals simp only[cM,hl,aa,ae]
  ·have hrp:0<r.length:=aSX.2 hr;have dr:decide (((r.length+1:Nat):Int)>1)=true:=cF (by omega);have Og:sF neg (c::r)=true:=by simp only[sF,aSY,aMn,h49,Bool.true_and];rw[cF (by omega),Bool.true_or]
   simp only[↓aQ,aR,↓aT,aK,↓reduceIte,aa,ah,ae,hl,g0,dl,B6,lD,he,aaV,FF,dr];exact⟨_,_,rfl,fun _=>⟨rfl,rfl⟩,fun e=>absurd (Og.symm.trans e) (by decide)⟩
 ·have hc:((c.toNat:Int)==48)=false:=by
   rw[beq_eq_false_iff_ne];intro e;exact h48 (UInt8.toNat_inj.1 (by show c.toNat=48;omega))
  have Og:sF neg (c::r)=false:=by simp only[sF,aSY];rw[show(some c==some (48:UInt8))=false by simpa using h48,Bool.false_and]
  simp only[↓aQ,aR,↓aT,aK,aa,ae,hl,g0,dl,B6,lD,he,aaV,FF,hc];refine jr _ (fun x hx=>⟨x,0,rfl,fun e=>absurd (Og.symm.trans e) (by decide),fun _=>⟨rfl,hx⟩⟩) _ (by simp only[cK,hl]) ?_ ?_ ?_
  all_goals simp only[cM,hl,aa,ae]
end Go.Proofs.YtblnjkjjedanaaaGreatDoor
