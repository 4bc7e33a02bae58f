/- Lemmas for AssemblyChecks; no condition. -/
import Derived.Test.YtmkjgfnicfpjpaaGreatDoorTam
set_option linter.all false
set_option maxHeartbeats 100000000
set_option maxRecDepth 100000
noncomputable section
open List renaming length_set->aPI,length_cons->aLf,length_nil->aQk,getElem?_cons_zero->aQl,getD->aQE,take_of_length_le->aOv,getElem?_eq_getElem->aLh,getElem?_cons_succ->aQm,replicate->aKF,getElem_mem->aLr,append_nil->aQw,nil_append->aQo,getElem?_set_self->aNv,drop_zero->aQu,getElem?_set_ne->aNt,drop_set_of_lt->aRA,take_succ_cons->aQr,drop_succ_cons->aQs,mem_replicate->aQR
open Int renaming toNat_natCast->aQD,natCast_mul->aRy,natCast_add->aRz
open Nat renaming zero_add->aLg,mod_eq_of_lt->aRx,mul_add->aQp,le_refl->aKE,mul_assoc->aQG,or_lt_two_pow->aRB,reduceLT->aa,reduceEqDiff->ae,reduceAdd->ah
open Bool renaming or_true->aQn,or_self->aQt,false_eq_true->aK4,and_true->aQq,and_self->aQz
open Option renaming map_some->aLt
namespace Go.Proofs.YtmkjgfnicfpjpaaGreatDoor
open Go Dv
def Ry{l:List Nat}{j d:Nat}(h:j<l.length):val (l.set j d)+4294967296^j*l.getD j 0=val l+4294967296^j*d:=by
 rw[qP (l:=l.set j d) (i:=j) (by simpa using h),qP (l:=l) (i:=j) h];have e1:(l.set j d).take j=l.take j:=List.take_set_of_le (aKE _);have e2:(l.set j d).drop (j+1)=l.drop (j+1):=aRA (by omega);have e3:(l.set j d).getD j 0=d:=by rw[aQE,aNv h];rfl
 rw[e1,e2,e3,aQp,aQp];omega
def mulC:Code:=(match Tryz.f74.body with|some c=>c|none=>.skip)
def ajI:E0.fn 74=some {code:=mulC,ntmps:=77,results:=[.cell 4 58],pure:=true,eE:=false}:=by kernel_rfl
def AQ(na:Bool)(m:AV)(nb:Bool)(m':AV)(out:List Nat):Hp:=[.cells .live [.bool na,m],.cells .live [.bool nb,m'],.cells .live [.bool false,.aH],.cells .live (cA out)]
def acW{H:Hp}{u v:AV}{w:AV}{bs:List Nat}(hu:aU u=true)(h1:fz H 40 u=some (u,[]))(hv:aU v=false)(h:bW H [v]=some ([w],bs)):qR false H [u,v]=some ([u,w],bs):=by
 rw[xC];unfold bW at h⊢;rw[show aV [v]=false by simp[aV,hv]]at h;rw[show aV [u,v]=false by simp[aV,hu,hv]];simp only[aK4,if_false,eZ]at h⊢;rw[h1];cases hf:fz H 40 v with
 |none=>rw[hf]at h;cases h
 |some y=>
  rw[hf]at h;simp only[List.map_cons,List.map_nil,List.flatMap_cons,List.flatMap_nil,aQw,Option.some.injEq,Prod.mk.injEq,List.cons.injEq,and_true]at h;simp[h.1,h.2]
def mR{E:Env}(C:Ctx E){v w:AV}{x y:Int}(h:eB v x)(k:eB w y)(fx:Fit x)(fy:Fit y):∃r,aR E 74 [v,w]=some r/\eB r (x*y):=by
 obtain⟨na,m,a,rfl,hm,hn,oZ,rfl⟩:=h;obtain⟨nb,m',b,rfl,kq,xg,Jt,rfl⟩:=k;have la:=uD hn nh fx;have lb:=uD xg nh fy;refine fn2 (C.ov 74 _ (by decide)) (by rw[C.fn];exact ajI) rfl (by decide) ?_;intro ts hl g0 g1;have T:=gW C.toOver;show W E mulC ts [] _
 unfold mulC;have w1:aW .i64 ((a.length:Int)+(b.length:Int))=((a.length+b.length:Nat):Int):=by rw[wrap_i64];simp
 simp only[Tryz.f74,nG,ft,er,cO,sP,ec,jf,gJ,jM,eO,cT,mA,AE,fT,eR,fP,CS,mM,dP,ou,bZ,aS,cN,bP,k9,aQ,dh,lu,dO,gA,cB,fF,aV,aQq,nN,bt,aN,aY,aPI,aQl,aQm,kL,aa,ah,ne_eq,ae,not_false_eq_true,fk,aQo,List.cons_append,aLf,aQk,aLg,bC,aQt,ef,iW,cp,jL,hl,g0,g1,pR C,gC (vV C),oP C,dG T hm,dG T kq,w1,Y1 C (show a.length+b.length<100000000000 by omega),kF];refine F0 (fun k ts H=>∃i out,k=a.length-i/\i<=a.length/\ts.length=77/\gt ts 2=.bI 0 0/\gt ts 3=.bI 1 0/\gt ts 4=.bI 2 0/\gt ts 20=m/\gt ts 21=.int .i64 (a.length:Nat)/\gt ts 22=.int .i64 (i:Nat)/\gt ts 5=.aI 3 0 (a.length+b.length) 1 (a.length+b.length)/\
  H=AQ na m nb m' out/\out.length=a.length+b.length/\(∀d∈out,d<4294967296)/\val out=val (a.take i)*val b/\(∀j,i+b.length<=j->out.getD j 0=0)) (a.length) ?_ ?_
 rotate_left
 ·refine⟨0,aKF (a.length+b.length) 0,by omega,by omega,by simp[hl],?_⟩;simp only[aN,aY,aPI,hl,aa,ne_eq,ae,not_false_eq_true];refine⟨trivial,trivial,trivial,trivial,trivial,rfl,trivial,rfl,by simp,?_,by simp[val,Gv],?_⟩
  ·intro d hd;have:=(aQR.1 hd).2;omega
  ·intro j hj;rw[aQE,List.getElem?_replicate]
   split<;>rfl
 clear hl g0 g1 ts;rintro k ts H ⟨i,out,rfl,hi,hl,g2,g3,g4,g20,g21,g22,g5,rfl,ho,hd,hv,hzero⟩;have hz:=qp C;by_cases sD:i<a.length
 ·have oT:decide ((i:Int)<(a.length:Int))=true:=bh;have ER:=ji T hm (k:=.i64) (z:=(i:Int));rw[aQD]at ER;have z7:=fun H=>oz T (l:=a) (H:=H) sD
  generalize hx:a.getD i 0=x at z7;have pZ:x<4294967296:=by rw[<-hx,aQE,aLh sD];exact hm.1 _ (aLr sD)
  unfold AQ;simp only[↓reduceIte,eY,jH,ft,er,eX,cO,sP,ec,jF,fC,dE,eO,cT,fT,fP,CS,tw,dP,bZ,aS,cN,bP,aQ,dh,dO,gA,cB,aU,nN,bt,aN,aY,aPI,aQl,aQm,ga,aa,ah,ne_eq,ae,not_false_eq_true,aLf,aQk,aLg,bC,aQt,aQn,ef,iW,gH,gG,hl,g2,g3,g4,g20,g21,g22,g5,pQ C,pR C,gC (EX C),gC (vV C),dG T kq,oT,ER,z7];refine F0 (fun q ts H=>∃k wT c,q=b.length-k/\k<=b.length/\ts.length=77/\gt ts 2=.bI 0 0/\gt ts 3=.bI 1 0/\gt ts 4=.bI 2 0/\gt ts 20=m/\gt ts 21=.int .i64 (a.length:Nat)/\gt ts 22=.int .i64 (i:Nat)/\gt ts 5=.aI 3 0 (a.length+b.length) 1 (a.length+b.length)/\
   gt ts 6=.int .i64 (i:Nat)/\gt ts 7=.int .u32 (x:Nat)/\gt ts 8=.int .u64 (c:Nat)/\gt ts 28=m'/\gt ts 29=.int .i64 (b.length:Nat)/\gt ts 30=.int .i64 (k:Nat)/\
   H=AQ na m nb m' wT/\wT.length=a.length+b.length/\(∀d∈wT,d<4294967296)/\c<4294967296/\val wT+4294967296^(i+k)*c=val out+4294967296^i*(x*val (b.take k))/\(∀j,i+b.length<=j->wT.getD j 0=0)) (b.length) ?_ ?_
  rotate_left
  ·refine⟨0,out,0,by omega,by omega,by simp[hl],?_⟩;simp only[aN,aY,aPI,hl,aa,ne_eq,ae,not_false_eq_true,g2,g3,g4,g20,g21,g22,g5];refine⟨trivial,trivial,trivial,trivial,trivial,trivial,trivial,trivial,trivial,rfl,trivial,trivial,rfl,rfl,ho,hd,by first|trivial|omega,by simp[val],hzero⟩
  clear hl g2 g3 g4 g20 g21 g22 g5 ts;rintro q ts H ⟨k,wT,c,rfl,hk,hl,g2,g3,g4,g20,g21,g22,g5,g6,g7,g8,g28,MK,Ij,rfl,ho',Ud,hc,hv',M6⟩;have dp:∀(j z:Nat),j<wT.length->gT 1 [.int .u32 (z:Int)] [.cells .live (cA wT)] 0 j=some (.cells .live (cA (wT.set j z))):=by intro j z hj;rw[kj,uc hj,mY,if_pos];simp[cL];omega
  have hxx:aW .u64 (x:Int)=x:=wrap_u64;by_cases hkb:k<b.length
  ·have Io:decide ((k:Int)<(b.length:Int))=true:=bh;have JI:=ji T kq (k:=.i64) (z:=(k:Int));rw[aQD]at JI;have LP:=fun H=>oz T (l:=b) (H:=H) hkb
   generalize hy:b.getD k 0=y at LP;have adv:y<4294967296:=by rw[<-hy,aQE,aLh hkb];exact kq.1 _ (aLr hkb)
   have vI:=fun z=>dp (i+k) z (by omega)
   have zX:=JH C (b:=3) (n:=a.length+b.length) (k:=.i64) (z:=((i+k:Nat):Int));rw[aQD]at zX;have ik:i+k<wT.length:=by omega
   generalize ht:wT.getD (i+k) 0=t;have aG8:t<4294967296:=by rw[<-ht,aQE,aLh ik];exact Ud _ (aLr ik)
   have su:(cA wT)[i+k]?=some (.int .u32 (t:Int)):=by rw[<-ht];simp[cA,aQE,ik]
   have XR:x*y<=4294967295*4294967295:=Nat.mul_le_mul (by omega) (by omega);have w0:aW .i64 ((i:Int)+(k:Int))=((i+k:Nat):Int):=by rw[wrap_i64];simp
   have w1':aW .u64 (y:Int)=y:=wrap_u64;have w2:aW .u64 ((x:Int)*(y:Int))=((x*y:Nat):Int):=by rw[<-aRy];exact wrap_u64
   have w3:aW .u64 (t:Int)=t:=wrap_u64;have w4:aW .u64 (((x*y:Nat):Int)+(t:Int))=((x*y+t:Nat):Int):=by rw[<-aRz];exact wrap_u64
   have w5:aW .u64 ((c:Int)+((x*y+t:Nat):Int))=((c+(x*y+t):Nat):Int):=by rw[<-aRz];exact wrap_u64
   have w6:aW .i64 ((k:Int)+1)=((k+1:Nat):Int):=by rw[wrap_i64];simp
   unfold AQ
   simp(maxSteps:=1000000)only[↓reduceIte,eY,jH,ft,er,eX,cO,ec,jF,fj,fC,dE,eO,cT,fT,eR,fP,tw,bZ,aS,de,aQ,dh,bt,aN,aY,aPI,kL,L6,ga,aa,ah,ne_eq,ae,not_false_eq_true,aLf,aQk,aLg,bC,aQt,aQn,ef,iW,nD,cp,jL,eK,aLt,gH,gG,vI,su,hl,g2,g3,g4,g20,g21,g22,g5,g6,g7,g8,g28,MK,Ij,gC (alz C),Io,JI,LP,zX,eg hz.1 hz.2.1,eg hz.2.1 hz.1,gh,hxx,w0,w1',w2,w3,w4,w5,w6,wrap_u32,jI,jC (sd C),AV.cells]
   refine⟨b.length-(k+1),by omega,k+1,wT.set (i+k) ((c+(x*y+t))%4294967296),(c+(x*y+t))/4294967296,rfl,by omega,trivial,trivial,trivial,trivial,trivial,trivial,trivial,trivial,trivial,trivial,rfl,trivial,trivial,rfl,rfl,by simpa using ho',cZ Ud,by omega,?_,?_⟩
   ·have s1:=Ry (d:=(c+(x*y+t))%4294967296) ik;rw[ht]at s1;rw[cu hkb,hy];have e1:4294967296^(i+(k+1))*((c+(x*y+t))/4294967296)=4294967296^(i+k)*(4294967296*((c+(x*y+t))/4294967296)):=by rw[<-Nat.add_assoc,Nat.pow_succ,aQG]
    have e2:4294967296^(i+k)*((c+(x*y+t))%4294967296)+4294967296^(i+k)*(4294967296*((c+(x*y+t))/4294967296))=4294967296^(i+k)*c+(4294967296^(i+k)*(x*y)+4294967296^(i+k)*t):=by rw[<-aQp,Nat.mod_add_div,aQp,aQp]
    have e3:4294967296^i*(x*(val (b.take k)+4294967296^k*y))=4294967296^i*(x*val (b.take k))+4294967296^(i+k)*(x*y):=by
     rw[aQp,aQp,Nat.pow_add];congr 1
     ac_rfl
    omega
   ·intro j hj;rw[aQE,aNt (by omega)];exact M6 j hj
  ·have Io:decide ((k:Int)<(b.length:Int))=false:=bj;obtain rfl:k=b.length:=by omega
   have vI:=fun z=>dp (i+b.length) z (by omega)
   have zX:=JH C (b:=3) (n:=a.length+b.length) (k:=.i64) (z:=((i+b.length:Nat):Int));rw[aQD]at zX;have w0:aW .i64 ((i:Int)+(b.length:Int))=((i+b.length:Nat):Int):=by rw[wrap_i64];simp
   have w6:aW .i64 ((i:Int)+1)=((i+1:Nat):Int):=by rw[wrap_i64];simp
   have ik:i+b.length<wT.length:=by omega
   unfold AQ
   simp(maxSteps:=1000000)only[↓reduceIte,eY,jH,ft,er,eX,cO,ec,jF,fj,fC,dE,eO,cT,fT,eR,fP,tw,bZ,aS,cN,de,aQ,dh,nN,bt,aN,aY,aPI,aQl,aQm,kL,ga,aa,ah,ne_eq,ae,not_false_eq_true,aLf,aQk,aLg,bC,aQt,aQn,ef,iW,nD,cp,jL,eK,aLt,gH,gG,vI,hl,g2,g3,g4,g20,g21,g22,g5,g6,g7,g8,g28,MK,Ij,Io,zX,pR C,gC (vV C),dG T kq,eg hz.1 hz.2.1,eg hz.2.1 hz.1,gh,w0,w6,wrap_u32,jC (sd C),AV.cells,aK4]
   refine⟨a.length-(i+1),by omega,i+1,wT.set (i+b.length) (c%4294967296),rfl,by omega,trivial,trivial,trivial,trivial,trivial,trivial,rfl,trivial,rfl,by simpa using ho',cZ Ud,?_,?_⟩
   ·have s1:=Ry (d:=c%4294967296) ik;rw[M6 _ (aKE _),Nat.mul_zero,Nat.add_zero,aRx hc]at s1;rw[aRx hc,s1,hv',aOv (aKE _),cu sD,hx,hv,Nat.add_mul,aQG]
   ·intro j hj;rw[aQE,aNt (by omega)];exact M6 j (by omega)
 ·have oT:decide ((i:Int)<(a.length:Int))=false:=bj;obtain rfl:i=a.length:=by omega
  rw[aOv (aKE _)]at hv;have Bj:eC (.aK (cA out) (a.length+b.length)) out:=⟨hd,.inl (by rw[ho])⟩;obtain⟨r,hr,zR⟩:=iF C Bj (by omega) (na !=nb);have kr:=dB hr;have lC:eB r ((if na=true then-(val a:Int)else val a)*(if nb=true then-(val b:Int)else val b)):=by
   rw[hv]at zR;cases na<;>cases nb<;>simpa[Int.neg_mul,Int.mul_neg,aRy]using zR
  obtain⟨u,t,rfl,o1,o2,p1,p2⟩:=nX zR;have fY:qR false (AQ na m nb m' out) [.bool (na !=nb),.aI 3 0 (a.length+b.length) 1 (a.length+b.length)]=some ([.bool (na !=nb),.aK (cA out) (a.length+b.length)],[3]):=by
   refine acW rfl rfl (by simp[aU]) ?_
   have:=tv (H:=AQ na m nb m' out) (b:=3) (l:=out) (st:=.live) rfl
   rw[ho]at this;exact this
  unfold AQ at fY⊢;cases zQ:bY (.agg [u,t])
  ·simp only[↓reduceIte,eY,jH,ft,er,eX,cO,sP,ec,jF,fC,dE,jx,tL,eO,cT,fT,fP,CS,tw,dP,bZ,aS,de,bP,dd,aQ,dh,dO,gA,cB,mE,aV,aU,Bool.true_and,aQz,bt,aN,aY,aPI,aQl,beq_self_eq_true,ga,aa,ah,ne_eq,ae,not_false_eq_true,fk,aQo,aLf,aQk,aLg,bC,aQt,aQn,ef,iW,kI,nM,nD,cp,jL,eK,aLt,List.all_cons,List.all_nil,aQr,List.take_zero,aQs,aQu,List.drop_nil,aQw,aKE,decide_true,List.take_nil,gH,gG,kj,fW,hl,g2,g3,g4,g20,g21,g22,g5,oT,pQ C,gC (EX C),uv (Fj C),fY,kr,zQ,o1,o2,p1,p2,nv (B9 C),jC (DU C),om,List.modify_succ_cons,List.modify_zero_cons,aK4];exact lC
  ·simp only[↓reduceIte,eY,jH,ft,er,eX,cO,sP,ec,jF,fC,dE,jx,tL,eO,cT,fT,fP,CS,tw,dP,bZ,aS,de,bP,dd,aQ,dh,dO,gA,cB,mE,aV,aU,Bool.true_and,aQz,ur,bt,aN,aY,aPI,aQl,beq_self_eq_true,ga,aa,ah,ne_eq,ae,not_false_eq_true,fk,aQo,aLf,aQk,aLg,bC,aQt,aQn,ef,iW,kI,nM,nD,cp,jL,eK,aLt,List.all_cons,List.all_nil,aQr,List.take_zero,aQs,aQu,List.drop_nil,aQw,aKE,decide_true,List.take_nil,gH,gG,kj,fW,hl,g2,g3,g4,g20,g21,g22,g5,oT,pQ C,gC (EX C),uv (Fj C),fY,kr,zQ,o1,o2,p1,p2,nv (B9 C),jC (DU C),aK4];exact lC
def qb{out:List Nat}{H:Hp}{j z:Nat}(hj:j<out.length):gT 1 [.int .u32 (z:Int)] (.cells .live (cA out)::H) 0 j=some (.cells .live (cA (out.set j z))):=by rw[kj,uc hj,mY,if_pos];simp[cL];omega
def BO{n:Nat}:∀d∈aKF n 0,d<4294967296:=by intro d hd;have:=(aQR.1 hd).2;omega
def fw{l:List Nat}(h:∀d∈l,d<4294967296){i:Nat}:l.getD i 0<4294967296:=by
 rw[aQE];cases hq:l[i]? with
 |none=>simp
 |some x=>exact h x (List.mem_of_getElem? hq)
def OG:Code:=(match Tryz.f229.body with|some c=>c|none=>.skip)
def WS:E0.fn 229=some {code:=OG,ntmps:=47,results:=[.tmp 6],pure:=true,eE:=false}:=by kernel_rfl
def OH{E:Env}(C:Ctx E){v:AV}{a:List Nat}(ha:eC v a)(la:a.length<10000000001){m p:Nat}(hm:m<4294967296)(hp:p<4294967296):
  ∃r,aR E 229 [v,.int .u32 (m:Int),.int .u32 (p:Int)]=some r/\∃l,eC r l/\Norm l/\val l=val a*m+p/\l.length<=a.length+1:=by
 refine fn3 (C.ov 229 _ (by decide)) (by rw[C.fn];exact WS) rfl (by decide) ?_;intro ts hl g0 g1 g2;have T:=gW C.toOver;have hz:=qp C;show W E OG ts [] _
 unfold OG;have w1:aW .i64 ((a.length:Int)+1)=((a.length+1:Nat):Int):=by rw[wrap_i64];simp
 have w2:aW .u64 (p:Int)=p:=wrap_u64;have wm:aW .u64 (m:Int)=m:=wrap_u64;simp only[Tryz.f229,nG,ft,er,cO,sP,ec,jf,gJ,rJ,tL,eO,cT,fP,mM,dP,ou,bZ,aS,cN,bP,k9,aQ,dh,lu,qu,dO,gA,cB,fF,aV,aQq,nN,bt,aN,aY,aPI,kL,aa,ne_eq,ae,not_false_eq_true,aLf,aQk,aLg,bC,aQn,cp,hl,g0,g2,dG T ha,w1,w2,eg hz.1 hz.2.1,gh,Y1 C (show a.length+1<100000000000 by omega),kF];refine F0 (fun k_ ts H=>∃i out c,k_=a.length-i/\ts.length=47/\gt ts 0=v/\gt ts 1=.int .u32 (m:Int)/\gt ts 7=.aI 0 0 (a.length+1) 1 (a.length+1)/\gt ts 8=.int .u64 (c:Nat)/\gt ts 17=v/\gt ts 18=.int .i64 (a.length:Nat)/\gt ts 19=.int .i64 (i:Nat)/\H=[.cells .live (cA out)]/\(i<=a.length)/\(out.length=a.length+1)/\(∀d∈out,d<4294967296)/\(c<4294967296)/\(val (out.take i)+4294967296^i*c=val (a.take i)*m+p)) (a.length) ?_ ?_
 rotate_left
 ·refine⟨0,aKF (a.length+1) 0,p,(by first|omega|rfl|simp),(by simp only[aPI,hl]),?_⟩;simp only[aZ,hl,aa,ae,g0,g1]
  iterate 8 refine cG ?_
  refine⟨?_,?_,?_,?_,?_⟩
  ·first|omega|trivial
  ·first|simp|trivial
  ·first|exact BO|trivial
  ·first|omega|trivial
  ·first|simp[val]|trivial
 clear hl g0 g1 g2 ts;rintro k_ ts H ⟨i,out,c,rfl,hl,g0,g1,g7,g8,g17,g18,g19,rfl,hi,ho,hd,hc,hv⟩;by_cases sD:i<a.length
 ·have oT:decide ((i:Int)<(a.length:Int))=true:=bh;have ER:=ji T ha (k:=.i64) (z:=(i:Int));rw[aQD]at ER;have z7:=fun H=>oz T (l:=a) (H:=H) sD
  have pZ:=fw ha.1 (i:=i);generalize hx:a.getD i 0=x at z7 pZ;have XR:x*m<=4294967295*4294967295:=Nat.mul_le_mul (by omega) (by omega);have wx:aW .u64 (x:Int)=x:=wrap_u64;have w3:aW .u64 ((x:Int)*(m:Int))=((x*m:Nat):Int):=by rw[<-aRy];exact wrap_u64
  have w4:aW .u64 ((c:Int)+((x*m:Nat):Int))=((c+x*m:Nat):Int):=by rw[<-aRz];exact wrap_u64
  have w5:aW .i64 ((i:Int)+1)=((i+1:Nat):Int):=by rw[wrap_i64];simp
  have zX:=JH C (b:=0) (n:=a.length+1) (k:=.i64) (z:=(i:Int));rw[aQD]at zX;have ik:i<out.length:=by omega
  have dp:=fun z H=>qb (H:=H) (z:=z) ik
  simp only[↓reduceIte,eY,jH,ft,er,eX,cO,ec,jF,fj,fC,dE,eO,cT,fT,eR,fP,tw,bZ,aS,de,aQ,dh,aU,bt,aN,aY,aPI,kL,L6,ga,aa,ne_eq,ae,not_false_eq_true,aLf,aQk,aLg,bC,aQt,aQn,cp,eK,aLt,gH,gG,hl,g0,g1,g7,g8,g17,g18,g19,oT,ER,z7,zX,dp,eg hz.1 hz.2.1,eg hz.2.1 hz.1,gh,wx,wm,w3,w4,w5,wrap_u32,jI,jC (sd C),AV.cells];refine⟨_,(by first|omega|(simp;omega)),i+1,out.set i ((c+x*m)%4294967296),(c+x*m)/4294967296,rfl,(by first|trivial|rfl|assumption|(congr 1;omega)|(simp;done)|(simp;omega)),(by first|trivial|rfl|assumption|(congr 1;omega)|(simp;done)|(simp;omega)),(by first|trivial|rfl|assumption|(congr 1;omega)|(simp;done)|(simp;omega)),(by first|trivial|rfl|assumption|(congr 1;omega)|(simp;done)|(simp;omega)),(by first|trivial|rfl|assumption|(congr 1;omega)|(simp;done)|(simp;omega)),(by first|trivial|rfl|assumption|(congr 1;omega)|(simp;done)|(simp;omega)),(by first|trivial|rfl|assumption|(congr 1;omega)|(simp;done)|(simp;omega)),(by first|trivial|rfl|assumption|(congr 1;omega)|(simp;done)|(simp;omega)),(by first|trivial|rfl|assumption|(congr 1;omega)|(simp;done)|(simp;omega)),?_,?_,?_,?_,?_⟩
  ·omega
  ·simpa using ho
  ·exact cZ hd
  ·omega
  ·rw[eI ik,cu sD,hx];have e1:4294967296^(i+1)*((c+x*m)/4294967296)=4294967296^i*(4294967296*((c+x*m)/4294967296)):=by rw[Nat.pow_succ,aQG]
   have e2:4294967296^i*((c+x*m)%4294967296)+4294967296^i*(4294967296*((c+x*m)/4294967296))=4294967296^i*c+4294967296^i*(x*m):=by rw[<-aQp,Nat.mod_add_div,aQp]
   have e3:(val (a.take i)+4294967296^i*x)*m=val (a.take i)*m+4294967296^i*(x*m):=by rw[Nat.add_mul,aQG]
   omega
 ·have oT:decide ((i:Int)<(a.length:Int))=false:=bj;obtain rfl:i=a.length:=by omega
  have zX:=JH C (b:=0) (n:=a.length+1) (k:=.i64) (z:=(a.length:Int));rw[aQD]at zX;have ik:a.length<out.length:=by omega
  have dp:=fun z H=>qb (H:=H) (z:=z) ik
  have Ud:∀d∈out.set a.length (c%4294967296),d<4294967296:=cZ hd;have Bj:eC (.aK (cA (out.set a.length (c%4294967296))) (a.length+1)) (out.set a.length (c%4294967296)):=⟨Ud,.inl (by rw[aPI,ho])⟩;obtain⟨r,hr,Ee⟩:=je C Bj (by rw[aPI];omega);have kr:=dB hr;have fY:qR false [.cells .live (cA (out.set a.length (c%4294967296)))] [.aI 0 0 (a.length+1) 1 (a.length+1)]=some ([.aK (cA (out.set a.length (c%4294967296))) (a.length+1)],[0]):=by
   rw[xC]
   have:=tv (H:=[.cells .live (cA (out.set a.length (c%4294967296)))]) (b:=0) (l:=out.set a.length (c%4294967296)) (st:=.live) rfl
   rwa[aPI,ho]at this
  simp only[↓reduceIte,eY,jH,ft,er,eX,cO,ec,jF,fj,fC,dE,jx,eO,cT,fT,eR,fP,tw,bZ,aS,cN,de,dd,aQ,dh,mE,aU,nN,bt,aN,aY,aPI,kL,ga,aa,ne_eq,ae,not_false_eq_true,aLf,aQk,aLg,bC,aQt,aQn,cp,eK,aLt,gH,gG,hl,g0,g1,g7,g8,g17,g18,g19,oT,zX,dp,eg hz.1 hz.2.1,eg hz.2.1 hz.1,gh,wrap_u32,dG T ha,jC (sd C),AV.cells,fY,kr,aO Ee,aK4];refine⟨_,Ee,iU _,?_,?_⟩
  ·rw[hJ];have h1:=eI (l:=out) (d:=c%4294967296) ik;rw[aOv (by rw[aPI];omega)]at h1;rw[h1,aRx hc,hv,aOv (aKE _)]
  ·obtain⟨n,hn⟩:=pM (out.set a.length (c%4294967296))
   have:=congrArg List.length hn
   rw[aPI,List.length_append]at this;omega
section
variable{E:Env}{c:Bool}{t:Nat}
def GC{k:IntKind}{a b:Nat}(h:b≠0):cd E c .quo t (.int k (a:Int)) (.int k (b:Int))=some (.int k (aW k ((a/b:Nat):Int))):=by rw[ah1 (by omega)];rfl
def mw{k:IntKind}{a b:Nat}(h:b≠0:=by omega):cd E c .rem t (.int k (a:Int)) (.int k (b:Int))=some (.int k ((a%b:Nat):Int)):=by rw[ah2 (by omega)];rfl
def nY{n a:Nat}(h:a<2^n:=by omega):(BitVec.ofInt n (a:Int)).toNat=a:=by rw[BitVec.ofInt_natCast,BitVec.toNat_ofNat,aRx h]
def xQ{a b:Nat}(ha:a<18446744073709551616:=by omega)(hb:b<18446744073709551616:=by omega):cd E c .or t (.int .u64 (a:Int)) (.int .u64 (b:Int))=some (.int .u64 ((a|||b:Nat):Int)):=by
 have h:a|||b<2^64:=aRB (by omega) (by omega)
 simp only[cd,k7,ne_eq,not_true_eq_false,if_false];rw[show IntKind.u64.bits=64 from rfl,BitVec.toNat_or,nY,nY,wrap_u64]
def PB{a b:Nat}(ha:a<4294967296)(hb:b<4294967296):cd E c .or t (.int .u32 (a:Int)) (.int .u32 (b:Int))=some (.int .u32 ((a|||b:Nat):Int)):=by
 have h:a|||b<2^32:=aRB (by omega) (by omega)
 simp only[cd,k7,ne_eq,not_true_eq_false,if_false];rw[show IntKind.u32.bits=32 from rfl,BitVec.toNat_or,nY,nY,wrap_u32,aRx (by omega)]
def xR{k k':IntKind}{a n:Nat}(h:n<=k.bits):cd E c .shl t (.int k (a:Int)) (.int k' (n:Int))=some (.int k (aW k ((a*2^n:Nat):Int))):=by
 simp only[cd];rw[if_neg (by omega),aQD,Nat.min_eq_left h]
 simp
def BD{k k':IntKind}{a n:Nat}(h:n<=k.bits:=by decide):cd E c .shr t (.int k (a:Int)) (.int k' (n:Int))=some (.int k ((a/2^n:Nat):Int)):=by
 simp only[cd];rw[if_neg (by omega),aQD,Nat.min_eq_left h,Int.fdiv_eq_ediv_of_nonneg _ (by exact Int.le_of_lt (Int.pow_pos (by decide)))]
 simp
def sV{a:Nat}{k':IntKind}(h:a<4294967296):cd E c .shl t (.int .u64 (a:Int)) (.int k' 32)=some (.int .u64 ((a*4294967296:Nat):Int)):=by
 have:=xR (E:=E) (c:=c) (t:=t) (k:=.u64) (k':=k') (a:=a) (n:=32) (by decide)
 rw[show(2:Nat)^32=4294967296 from rfl,wrap_u64]at this;exact this
def Og{r d:Nat}(h:d<4294967296):(r*4294967296)|||d=r*4294967296+d:=by
 have:=Nat.shiftLeft_add_eq_or_of_lt (i:=32) (b:=d) (by omega) r
 rw[Nat.shiftLeft_eq]at this;exact this.symm
end
def OK:Code:=(match Tryz.f112.body with|some c=>c|none=>.skip)
def WT:E0.fn 112=some {code:=OK,ntmps:=43,results:=[.tmp 4,.tmp 5],pure:=true,eE:=false}:=by kernel_rfl
def wc{l:List Nat}{k:Nat}(h0:0<k)(h:k<=l.length):val (l.drop (k-1))=l.getD (k-1) 0+4294967296*val (l.drop k):=by
 have hk:k-1<l.length:=by omega
 rw[List.drop_eq_getElem_cons hk,show k-1+1=k by omega];simp[val,aQE,hk]
def vP{l:List Nat}{k d:Nat}(h0:0<k:=by omega)(h:k<=l.length:=by omega):val ((l.set (k-1) d).drop (k-1))=d+4294967296*val (l.drop k):=by rw[wc h0 (by simpa using h),aRA (by omega),aQE,aNv (by omega)];rfl
def OL{E:Env}(C:Ctx E){v:AV}{a:List Nat}(ha:eC v a)(la:a.length<10000000001){m:Nat}(h0:m≠0)(hm:m<4294967296):
  ∃r,aR E 112 [v,.int .u32 (m:Int)]=some (.tuple [r,.int .u32 ((val a%m:Nat):Int)])/\∃l,eC r l/\Norm l/\val l=val a/m:=by
 suffices hh:∃u,aR E 112 [v,.int .u32 (m:Int)]=some u/\∃r,u=.tuple [r,.int .u32 ((val a%m:Nat):Int)]/\∃l,eC r l/\Norm l/\val l=val a/m by
  obtain⟨u,h1,r,rfl,h2⟩:=hh;exact⟨r,h1,h2⟩
 refine fn2 (C.ov 112 _ (by decide)) (by rw[C.fn];exact WT) rfl (by decide) ?_;intro ts hl g0 g1;have T:=gW C.toOver;have hz:=qp C;show W E OK ts [] _
 unfold OK;have w1:aW .i64 ((a.length:Int)-1)=(a.length:Int)-1:=by rw[wrap_i64]
 have wm:aW .u64 (m:Int)=m:=wrap_u64;simp only[Tryz.f112,nG,ft,er,cO,sP,ec,jf,gJ,rJ,auU,eO,cT,fP,mM,dP,ou,bZ,aS,cN,bP,k9,aQ,dh,lu,qu,dO,gA,cB,fF,aV,aU,aQq,nN,bt,aN,aY,aPI,lW,aa,ne_eq,ae,not_false_eq_true,aLf,aQk,aLg,bC,aQn,cp,hl,g0,dG T ha,w1,Y1 C (show a.length<100000000000 by omega),kF];refine F0 (fun k_ ts H=>∃i out c,k_=0+i/\ts.length=43/\gt ts 0=v/\gt ts 1=.int .u32 (m:Int)/\gt ts 6=.aI 0 0 a.length 1 a.length/\gt ts 7=.int .u64 (c:Nat)/\gt ts 8=.int .i64 ((i:Int)-1)/\H=[.cells .live (cA out)]/\(i<=a.length)/\(out.length=a.length)/\(∀d∈out,d<4294967296)/\(c=val (a.drop i)%m)/\(val (out.drop i)=val (a.drop i)/m)) (a.length) ?_ ?_
 rotate_left
 ·refine⟨a.length,aKF a.length 0,0,(by first|omega|rfl|simp),(by simp only[aPI,hl]),?_⟩;simp only[aZ,hl,aa,ae,g0,g1]
  iterate 6 refine cG ?_
  refine⟨?_,?_,?_,?_,?_⟩
  ·first|omega|trivial
  ·first|simp|trivial
  ·first|exact BO|trivial
  ·first|simp[val]|trivial
  ·first|simp[val]|trivial
 clear hl g0 g1 ts;rintro k_ ts H ⟨i,out,c,rfl,hl,g0,g1,g6,g7,g8,rfl,hi,ho,hd,hc,hv⟩;have hcm:c<m:=by rw[hc];exact Nat.mod_lt _ (by omega)
 by_cases sD:0<i
 ·have oT:decide ((i:Int)-1≥0)=true:=bh;have ER:=ji T ha (k:=.i64) (z:=(i:Int)-1);rw[show((i:Int)-1).toNat=i-1 by omega]at ER;have z7:=fun H=>oz T (l:=a) (H:=H) (show i-1<a.length by omega)
  have pZ:=fw ha.1 (i:=i-1);generalize hx:a.getD (i-1) 0=x at z7 pZ;have wx:aW .u64 (x:Int)=x:=wrap_u64;have Qj:(c*4294967296)|||x=c*4294967296+x:=Og pZ
  have hq:(c*4294967296+x)/m<4294967296:=by
   rw[Nat.div_lt_iff_lt_mul (by omega)]
   have:(c+1)*4294967296<=m*4294967296:=Nat.mul_le_mul_right _ hcm
   rw[Nat.mul_comm 4294967296 m];omega
  have wq:aW .u64 (((c*4294967296+x)/m:Nat):Int)=((c*4294967296+x)/m:Nat):=wrap_u64;have w5:aW .i64 ((i:Int)-1-1)=(i:Int)-1-1:=by rw[wrap_i64]
  have zX:=JH C (b:=0) (n:=a.length) (k:=.i64) (z:=(i:Int)-1);rw[show((i:Int)-1).toNat=i-1 by omega]at zX;have ik:i-1<out.length:=by omega
  have dp:=fun z H=>qb (H:=H) (z:=z) ik
  simp only[↓reduceIte,eY,jH,ft,er,eX,cO,ec,jF,fj,fC,dE,eO,cT,fT,eR,fP,tw,bZ,aS,de,aQ,dh,aU,aQq,bt,aN,aY,aPI,lW,zw,aa,ne_eq,ae,not_false_eq_true,aLg,bC,aQt,aQn,cp,eK,aLt,gH,gG,hl,g0,g1,g6,g7,g8,oT,ER,z7,zX,dp,eg hz.1 hz.2.1,eg hz.2.1 hz.1,gh,wx,wm,wq,w5,wrap_u32,sV (show c<4294967296 by omega),xQ (show c*4294967296<18446744073709551616 by omega) (show x<18446744073709551616 by omega),Qj,GC h0,mw h0,jC (sd C),AV.cells];have Jo:=wc sD hi;rw[hx]at Jo;have hdiv:=Nat.div_add_mod (val (a.drop i)) m;rw[<-hc]at hdiv;have key:val (a.drop (i-1))=(c*4294967296+x)+m*(4294967296*(val (a.drop i)/m)):=by
   rw[Jo,<-hdiv,aQp,hdiv]
   have:4294967296*(m*(val (a.drop i)/m))=m*(4294967296*(val (a.drop i)/m)):=by ac_rfl
   omega
  refine⟨_,(by first|omega|(simp;omega)),i-1,out.set (i-1) ((c*4294967296+x)/m%4294967296),(c*4294967296+x)%m,rfl,(by first|trivial|rfl|assumption|(congr 1;omega)|(simp;done)|(simp;omega)),(by first|trivial|rfl|assumption|(congr 1;omega)|(simp;done)|(simp;omega)),(by first|trivial|rfl|assumption|(congr 1;omega)|(simp;done)|(simp;omega)),(by first|trivial|rfl|assumption|(congr 1;omega)|(simp;done)|(simp;omega)),(by first|trivial|rfl|assumption|(congr 1;omega)|(simp;done)|(simp;omega)),(by first|trivial|rfl|assumption|(congr 1;omega)|(simp;done)|(simp;omega)),(by first|trivial|rfl|assumption|(congr 1;omega)|(simp;done)|(simp;omega)),?_,?_,?_,?_,?_⟩
  ·omega
  ·simpa using ho
  ·exact cZ hd
  ·rw[key,Nat.add_mul_mod_self_left]
  ·rw[vP sD,hv,key,Nat.add_mul_div_left _ _ (by omega),aRx hq]
 ·have oT:decide ((i:Int)-1≥0)=false:=bj;obtain rfl:i=0:=by omega
  simp only[aQu]at hc hv;have Bj:eC (.aK (cA out) a.length) out:=⟨hd,.inl (by rw[ho])⟩;obtain⟨r,hr,Ee⟩:=je C Bj;have kr:=dB hr;have fY:qR false [.cells .live (cA out)] [.aI 0 0 a.length 1 a.length]=some ([.aK (cA out) a.length],[0]):=by
   rw[xC]
   have:=tv (H:=[.cells .live (cA out)]) (b:=0) (l:=out) (st:=.live) rfl
   rwa[ho]at this
  simp only[↓reduceIte,eY,jH,ft,er,eX,cO,ec,jF,fj,fC,dE,jx,eO,cT,fT,eR,fP,tw,bZ,aS,dd,aQ,dh,mE,aU,aQz,bt,aN,aY,aPI,lW,zw,aa,ne_eq,ae,not_false_eq_true,aLg,bC,aQt,aQn,gH,gG,hl,g0,g1,g6,g7,g8,oT,eg hz.1 hz.2.1,eg hz.2.1 hz.1,gh,wrap_u32,fY,kr,aO Ee,aK4];refine⟨r,?_,_,Ee,iU _,?_⟩
  ·rw[aRx (by omega),hc]
  ·rw[hJ,hv]
end Go.Proofs.YtmkjgfnicfpjpaaGreatDoor
