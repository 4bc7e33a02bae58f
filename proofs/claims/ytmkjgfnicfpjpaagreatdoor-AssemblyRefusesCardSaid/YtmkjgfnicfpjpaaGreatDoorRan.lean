/- Lemmas for AssemblyRefuses; no condition. -/
import Derived.Test.YtmkjgfnicfpjpaaGreatDoorRam
set_option linter.all false
set_option maxHeartbeats 100000000
set_option maxRecDepth 100000
noncomputable section
open List renaming length_set->aQx,length_cons->aL4,length_nil->aQ9,getElem?_cons_zero->aRa,getD->aRt,take_of_length_le->aPk,getElem?_eq_getElem->aL6,getElem?_cons_succ->aRb,replicate->aLu,getElem_mem->aMg,append_nil->aRl,nil_append->aRd,getElem?_set_self->aOl,drop_zero->aRj,getElem?_set_ne->aOj,drop_set_of_lt->aSp,take_succ_cons->aRg,drop_succ_cons->aRh,mem_replicate->aRG
open Int renaming toNat_natCast->aRs,natCast_mul->aSn,natCast_add->aSo
open Nat renaming zero_add->aL5,mod_eq_of_lt->aSm,mul_add->aRe,le_refl->aLt,mul_assoc->aRv,or_lt_two_pow->aSq,reduceLT->aa,reduceEqDiff->ae,reduceAdd->ah
open Bool renaming or_true->aRc,or_self->aRi,false_eq_true->aLT,and_true->aRf,and_self->aRo
open Option renaming map_some->aMi
namespace Go.Proofs.YtmkjgfnicfpjpaaGreatDoor
open Go Dv
def RD{l:List Nat}{j d:Nat}(h:j<l.length):val (l.set j d)+4294967296^j*l.getD j 0=val l+4294967296^j*d:=by
 rw[qU (l:=l.set j d) (i:=j) (by simpa using h),qU (l:=l) (i:=j) h];have e1:(l.set j d).take j=l.take j:=List.take_set_of_le (aLt _);have e2:(l.set j d).drop (j+1)=l.drop (j+1):=aSp (by omega);have e3:(l.set j d).getD j 0=d:=by rw[aRt,aOl h];rfl
 rw[e1,e2,e3,aRe,aRe];omega
def mulC:Code:=(match Tryz.f74.body with|some c=>c|none=>.skip)
def ajL:E0.fn 74=some {code:=mulC,ntmps:=77,results:=[.cell 4 58],pure:=true,eD:=false}:=by kernel_rfl
def AL(na:Bool)(m:AV)(nb:Bool)(m':AV)(out:List Nat):Hp:=[.cells .live [.bool na,m],.cells .live [.bool nb,m'],.cells .live [.bool false,.aH],.cells .live (cB out)]
def acY{H:Hp}{u v:AV}{w:AV}{bs:List Nat}(hu:aU u=true)(h1:fz H 40 u=some (u,[]))(hv:aU v=false)(h:bX H [v]=some ([w],bs)):sI false H [u,v]=some ([u,w],bs):=by
 rw[xF];unfold bX at h⊢;rw[show aV [v]=false by simp[aV,hv]]at h;rw[show aV [u,v]=false by simp[aV,hu,hv]];simp only[aLT,if_false,e9]at h⊢;rw[h1];cases hf:fz H 40 v with
 |none=>rw[hf]at h;cases h
 |some y=>
  rw[hf]at h;simp only[List.map_cons,List.map_nil,List.flatMap_cons,List.flatMap_nil,aRl,Option.some.injEq,Prod.mk.injEq,List.cons.injEq,and_true]at h;simp[h.1,h.2]
def mV{E:Env}(C:Ctx E){v w:AV}{x y:Int}(h:eA v x)(k:eA w y)(fx:Fit x)(fy:Fit y):∃r,aP E 74 [v,w]=some r/\eA r (x*y):=by
 obtain⟨na,m,a,rfl,hm,hn,o9,rfl⟩:=h;obtain⟨nb,m',b,rfl,ky,xk,Jo,rfl⟩:=k;have la:=uI hn nu fx;have lb:=uI xk nu fy;refine fn2 (C.ov 74 _ (by decide)) (by rw[C.fn];exact ajL) rfl (by decide) ?_;intro ts hl g0 g1;have T:=gW C.toOver;show W E mulC ts [] _
 unfold mulC;have w1:aW .i64 ((a.length:Int)+(b.length:Int))=((a.length+b.length:Nat):Int):=by rw[wrap_i64];simp
 simp only[Tryz.f74,nH,fu,eo,cP,sT,dX,jf,gK,jN,eO,cU,mD,Az,fU,eQ,fQ,CS,mO,dP,oz,b8,aT,cM,bR,k9,aQ,dh,lA,dO,gA,cG,fF,aV,aRf,nO,bA,aN,aZ,aQx,aRa,aRb,kL,aa,ah,ne_eq,ae,not_false_eq_true,fk,aRd,List.cons_append,aL4,aQ9,aL5,bC,aRi,dZ,iV,cu,jM,hl,g0,g1,p9 C,gC (v8 C),oV C,dG T hm,dG T ky,w1,Y0 C (show a.length+b.length<100000000000 by omega),kH];refine FY (fun k ts H=>∃i out,k=a.length-i/\i<=a.length/\ts.length=77/\gt ts 2=.bK 0 0/\gt ts 3=.bK 1 0/\gt ts 4=.bK 2 0/\gt ts 20=m/\gt ts 21=.int .i64 (a.length:Nat)/\gt ts 22=.int .i64 (i:Nat)/\gt ts 5=.aI 3 0 (a.length+b.length) 1 (a.length+b.length)/\
  H=AL na m nb m' out/\out.length=a.length+b.length/\(∀d∈out,d<4294967296)/\val out=val (a.take i)*val b/\(∀j,i+b.length<=j->out.getD j 0=0)) (a.length) ?_ ?_
 rotate_left
 ·refine⟨0,aLu (a.length+b.length) 0,by omega,by omega,by simp[hl],?_⟩;simp only[aN,aZ,aQx,hl,aa,ne_eq,ae,not_false_eq_true];refine⟨trivial,trivial,trivial,trivial,trivial,rfl,trivial,rfl,by simp,?_,by simp[val,Gt],?_⟩
  ·intro d hd;have:=(aRG.1 hd).2;omega
  ·intro j hj;rw[aRt,List.getElem?_replicate]
   split<;>rfl
 clear hl g0 g1 ts;rintro k ts H ⟨i,out,rfl,hi,hl,g2,g3,g4,g20,g21,g22,g5,rfl,ho,hd,hv,hzero⟩;have hz:=qx C;by_cases sK:i<a.length
 ·have oW:decide ((i:Int)<(a.length:Int))=true:=bj;have EL:=ji T hm (k:=.i64) (z:=(i:Int));rw[aRs]at EL;have zZ:=fun H=>oD T (l:=a) (H:=H) sK
  generalize hx:a.getD i 0=x at zZ;have qe:x<4294967296:=by rw[<-hx,aRt,aL6 sK];exact hm.1 _ (aMg sK)
  unfold AL;simp only[↓reduceIte,eZ,jI,fu,eo,eY,cP,sT,dX,jG,fD,dE,eO,cU,fU,fQ,CS,tG,dP,b8,aT,cM,bR,aQ,dh,dO,gA,cG,aU,nO,bA,aN,aZ,aQx,aRa,aRb,fZ,aa,ah,ne_eq,ae,not_false_eq_true,aL4,aQ9,aL5,bC,aRi,aRc,dZ,iV,gG,gF,hl,g2,g3,g4,g20,g21,g22,g5,p8 C,p9 C,gC (EU C),gC (v8 C),dG T ky,oW,EL,zZ];refine FY (fun q ts H=>∃k wX c,q=b.length-k/\k<=b.length/\ts.length=77/\gt ts 2=.bK 0 0/\gt ts 3=.bK 1 0/\gt ts 4=.bK 2 0/\gt ts 20=m/\gt ts 21=.int .i64 (a.length:Nat)/\gt ts 22=.int .i64 (i:Nat)/\gt ts 5=.aI 3 0 (a.length+b.length) 1 (a.length+b.length)/\
   gt ts 6=.int .i64 (i:Nat)/\gt ts 7=.int .u32 (x:Nat)/\gt ts 8=.int .u64 (c:Nat)/\gt ts 28=m'/\gt ts 29=.int .i64 (b.length:Nat)/\gt ts 30=.int .i64 (k:Nat)/\
   H=AL na m nb m' wX/\wX.length=a.length+b.length/\(∀d∈wX,d<4294967296)/\c<4294967296/\val wX+4294967296^(i+k)*c=val out+4294967296^i*(x*val (b.take k))/\(∀j,i+b.length<=j->wX.getD j 0=0)) (b.length) ?_ ?_
  rotate_left
  ·refine⟨0,out,0,by omega,by omega,by simp[hl],?_⟩;simp only[aN,aZ,aQx,hl,aa,ne_eq,ae,not_false_eq_true,g2,g3,g4,g20,g21,g22,g5];refine⟨trivial,trivial,trivial,trivial,trivial,trivial,trivial,trivial,trivial,rfl,trivial,trivial,rfl,rfl,ho,hd,by first|trivial|omega,by simp[val],hzero⟩
  clear hl g2 g3 g4 g20 g21 g22 g5 ts;rintro q ts H ⟨k,wX,c,rfl,hk,hl,g2,g3,g4,g20,g21,g22,g5,g6,g7,g8,g28,MP,Im,rfl,ho',wN,hc,hv',Nb⟩;have dx:∀(j z:Nat),j<wX.length->iZ 1 [.int .u32 (z:Int)] [.cells .live (cB wX)] 0 j=some (.cells .live (cB (wX.set j z))):=by intro j z hj;rw[kq,uq hj,nf,if_pos];simp[cN];omega
  have hxx:aW .u64 (x:Int)=x:=wrap_u64;by_cases hkb:k<b.length
  ·have Ir:decide ((k:Int)<(b.length:Int))=true:=bj;have JE:=ji T ky (k:=.i64) (z:=(k:Int));rw[aRs]at JE;have LW:=fun H=>oD T (l:=b) (H:=H) hkb
   generalize hy:b.getD k 0=y at LW;have adC:y<4294967296:=by rw[<-hy,aRt,aL6 hkb];exact ky.1 _ (aMg hkb)
   have vR:=fun z=>dx (i+k) z (by omega)
   have zV:=JD C (b:=3) (n:=a.length+b.length) (k:=.i64) (z:=((i+k:Nat):Int));rw[aRs]at zV;have ik:i+k<wX.length:=by omega
   generalize ht:wX.getD (i+k) 0=t;have aH2:t<4294967296:=by rw[<-ht,aRt,aL6 ik];exact wN _ (aMg ik)
   have sA:(cB wX)[i+k]?=some (.int .u32 (t:Int)):=by rw[<-ht];simp[cB,aRt,ik]
   have XQ:x*y<=4294967295*4294967295:=Nat.mul_le_mul (by omega) (by omega);have w0:aW .i64 ((i:Int)+(k:Int))=((i+k:Nat):Int):=by rw[wrap_i64];simp
   have w1':aW .u64 (y:Int)=y:=wrap_u64;have w2:aW .u64 ((x:Int)*(y:Int))=((x*y:Nat):Int):=by rw[<-aSn];exact wrap_u64
   have w3:aW .u64 (t:Int)=t:=wrap_u64;have w4:aW .u64 (((x*y:Nat):Int)+(t:Int))=((x*y+t:Nat):Int):=by rw[<-aSo];exact wrap_u64
   have w5:aW .u64 ((c:Int)+((x*y+t:Nat):Int))=((c+(x*y+t):Nat):Int):=by rw[<-aSo];exact wrap_u64
   have w6:aW .i64 ((k:Int)+1)=((k+1:Nat):Int):=by rw[wrap_i64];simp
   unfold AL
   simp(maxSteps:=1000000)only[↓reduceIte,eZ,jI,fu,eo,eY,cP,dX,jG,fj,fD,dE,eO,cU,fU,eQ,fQ,tG,b8,aT,de,aQ,dh,bA,aN,aZ,aQx,kL,Mc,fZ,aa,ah,ne_eq,ae,not_false_eq_true,aL4,aQ9,aL5,bC,aRi,aRc,dZ,iV,nF,cu,jM,eJ,aMi,gG,gF,vR,sA,hl,g2,g3,g4,g20,g21,g22,g5,g6,g7,g8,g28,MP,Im,gC (alA C),Ir,JE,LW,zV,ec hz.1 hz.2.1,ec hz.2.1 hz.1,gh,hxx,w0,w1',w2,w3,w4,w5,w6,wrap_u32,jJ,jD (sj C),AV.cells]
   refine⟨b.length-(k+1),by omega,k+1,wX.set (i+k) ((c+(x*y+t))%4294967296),(c+(x*y+t))/4294967296,rfl,by omega,trivial,trivial,trivial,trivial,trivial,trivial,trivial,trivial,trivial,trivial,rfl,trivial,trivial,rfl,rfl,by simpa using ho',cZ wN,by omega,?_,?_⟩
   ·have s1:=RD (d:=(c+(x*y+t))%4294967296) ik;rw[ht]at s1;rw[cA hkb,hy];have e1:4294967296^(i+(k+1))*((c+(x*y+t))/4294967296)=4294967296^(i+k)*(4294967296*((c+(x*y+t))/4294967296)):=by rw[<-Nat.add_assoc,Nat.pow_succ,aRv]
    have e2:4294967296^(i+k)*((c+(x*y+t))%4294967296)+4294967296^(i+k)*(4294967296*((c+(x*y+t))/4294967296))=4294967296^(i+k)*c+(4294967296^(i+k)*(x*y)+4294967296^(i+k)*t):=by rw[<-aRe,Nat.mod_add_div,aRe,aRe]
    have e3:4294967296^i*(x*(val (b.take k)+4294967296^k*y))=4294967296^i*(x*val (b.take k))+4294967296^(i+k)*(x*y):=by
     rw[aRe,aRe,Nat.pow_add];congr 1
     ac_rfl
    omega
   ·intro j hj;rw[aRt,aOj (by omega)];exact Nb j hj
  ·have Ir:decide ((k:Int)<(b.length:Int))=false:=bh (by omega);obtain rfl:k=b.length:=by omega
   have vR:=fun z=>dx (i+b.length) z (by omega)
   have zV:=JD C (b:=3) (n:=a.length+b.length) (k:=.i64) (z:=((i+b.length:Nat):Int));rw[aRs]at zV;have w0:aW .i64 ((i:Int)+(b.length:Int))=((i+b.length:Nat):Int):=by rw[wrap_i64];simp
   have w6:aW .i64 ((i:Int)+1)=((i+1:Nat):Int):=by rw[wrap_i64];simp
   have ik:i+b.length<wX.length:=by omega
   unfold AL
   simp(maxSteps:=1000000)only[↓reduceIte,eZ,jI,fu,eo,eY,cP,dX,jG,fj,fD,dE,eO,cU,fU,eQ,fQ,tG,b8,aT,cM,de,aQ,dh,nO,bA,aN,aZ,aQx,aRa,aRb,kL,fZ,aa,ah,ne_eq,ae,not_false_eq_true,aL4,aQ9,aL5,bC,aRi,aRc,dZ,iV,nF,cu,jM,eJ,aMi,gG,gF,vR,hl,g2,g3,g4,g20,g21,g22,g5,g6,g7,g8,g28,MP,Im,Ir,zV,p9 C,gC (v8 C),dG T ky,ec hz.1 hz.2.1,ec hz.2.1 hz.1,gh,w0,w6,wrap_u32,jD (sj C),AV.cells,aLT]
   refine⟨a.length-(i+1),by omega,i+1,wX.set (i+b.length) (c%4294967296),rfl,by omega,trivial,trivial,trivial,trivial,trivial,trivial,rfl,trivial,rfl,by simpa using ho',cZ wN,?_,?_⟩
   ·have s1:=RD (d:=c%4294967296) ik;rw[Nb _ (aLt _),Nat.mul_zero,Nat.add_zero,aSm hc]at s1;rw[aSm hc,s1,hv',aPk (aLt _),cA sK,hx,hv,Nat.add_mul,aRv]
   ·intro j hj;rw[aRt,aOj (by omega)];exact Nb j (by omega)
 ·have oW:decide ((i:Int)<(a.length:Int))=false:=bh (by omega);obtain rfl:i=a.length:=by omega
  rw[aPk (aLt _)]at hv;have Bf:eB (.aK (cB out) (a.length+b.length)) out:=⟨hd,.inl (by rw[ho])⟩;obtain⟨r,hr,zQ⟩:=iD C Bf (by omega) (na !=nb);have kB:=dB hr;have lE:eA r ((if na=true then-(val a:Int)else val a)*(if nb=true then-(val b:Int)else val b)):=by
   rw[hv]at zQ;cases na<;>cases nb<;>simpa[Int.neg_mul,Int.mul_neg,aSn]using zQ
  obtain⟨u,t,rfl,o1,o2,p1,p2⟩:=nZ zQ;have gH:sI false (AL na m nb m' out) [.bool (na !=nb),.aI 3 0 (a.length+b.length) 1 (a.length+b.length)]=some ([.bool (na !=nb),.aK (cB out) (a.length+b.length)],[3]):=by
   refine acY rfl rfl (by simp[aU]) ?_
   have:=tD (H:=AL na m nb m' out) (b:=3) (l:=out) (st:=.live) rfl
   rw[ho]at this;exact this
  unfold AL at gH⊢;cases tO:bQ (.agg [u,t])
  ·simp only[↓reduceIte,eZ,jI,fu,eo,eY,cP,sT,dX,jG,fD,dE,jx,tY,eO,cU,fU,fQ,CS,tG,dP,b8,aT,de,bR,dd,aQ,dh,dO,gA,cG,mH,aV,aU,Bool.true_and,aRo,bA,aN,aZ,aQx,aRa,beq_self_eq_true,fZ,aa,ah,ne_eq,ae,not_false_eq_true,fk,aRd,aL4,aQ9,aL5,bC,aRi,aRc,dZ,iV,kJ,nN,nF,cu,jM,eJ,aMi,List.all_cons,List.all_nil,aRg,List.take_zero,aRh,aRj,List.drop_nil,aRl,aLt,decide_true,List.take_nil,gG,gF,kq,fW,hl,g2,g3,g4,g20,g21,g22,g5,oW,p8 C,gC (EU C),pI (Fg C),gH,kB,tO,o1,o2,p1,p2,nB (B6 C),jD (DX C),oq,List.modify_succ_cons,List.modify_zero_cons,aLT];exact lE
  ·simp only[↓reduceIte,eZ,jI,fu,eo,eY,cP,sT,dX,jG,fD,dE,jx,tY,eO,cU,fU,fQ,CS,tG,dP,b8,aT,de,bR,dd,aQ,dh,dO,gA,cG,mH,aV,aU,Bool.true_and,aRo,uA,bA,aN,aZ,aQx,aRa,beq_self_eq_true,fZ,aa,ah,ne_eq,ae,not_false_eq_true,fk,aRd,aL4,aQ9,aL5,bC,aRi,aRc,dZ,iV,kJ,nN,nF,cu,jM,eJ,aMi,List.all_cons,List.all_nil,aRg,List.take_zero,aRh,aRj,List.drop_nil,aRl,aLt,decide_true,List.take_nil,gG,gF,kq,fW,hl,g2,g3,g4,g20,g21,g22,g5,oW,p8 C,gC (EU C),pI (Fg C),gH,kB,tO,o1,o2,p1,p2,nB (B6 C),jD (DX C),aLT];exact lE
def qj{out:List Nat}{H:Hp}{j z:Nat}(hj:j<out.length):iZ 1 [.int .u32 (z:Int)] (.cells .live (cB out)::H) 0 j=some (.cells .live (cB (out.set j z))):=by rw[kq,uq hj,nf,if_pos];simp[cN];omega
def BM{n:Nat}:∀d∈aLu n 0,d<4294967296:=by intro d hd;have:=(aRG.1 hd).2;omega
def fA{l:List Nat}(h:∀d∈l,d<4294967296){i:Nat}:l.getD i 0<4294967296:=by
 rw[aRt];cases hq:l[i]? with
 |none=>simp
 |some x=>exact h x (List.mem_of_getElem? hq)
def OJ:Code:=(match Tryz.f229.body with|some c=>c|none=>.skip)
def WW:E0.fn 229=some {code:=OJ,ntmps:=47,results:=[.tmp 6],pure:=true,eD:=false}:=by kernel_rfl
def OK{E:Env}(C:Ctx E){v:AV}{a:List Nat}(ha:eB v a)(la:a.length<10000000001){m p:Nat}(hm:m<4294967296)(hp:p<4294967296):
  ∃r,aP E 229 [v,.int .u32 (m:Int),.int .u32 (p:Int)]=some r/\∃l,eB r l/\Norm l/\val l=val a*m+p/\l.length<=a.length+1:=by
 refine fn3 (C.ov 229 _ (by decide)) (by rw[C.fn];exact WW) rfl (by decide) ?_;intro ts hl g0 g1 g2;have T:=gW C.toOver;have hz:=qx C;show W E OJ ts [] _
 unfold OJ;have w1:aW .i64 ((a.length:Int)+1)=((a.length+1:Nat):Int):=by rw[wrap_i64];simp
 have w2:aW .u64 (p:Int)=p:=wrap_u64;have wm:aW .u64 (m:Int)=m:=wrap_u64;simp only[Tryz.f229,nH,fu,eo,cP,sT,dX,jf,gK,rO,tY,eO,cU,fQ,mO,dP,oz,b8,aT,cM,bR,k9,aQ,dh,lA,qB,dO,gA,cG,fF,aV,aRf,nO,bA,aN,aZ,aQx,kL,aa,ne_eq,ae,not_false_eq_true,aL4,aQ9,aL5,bC,aRc,cu,hl,g0,g2,dG T ha,w1,w2,ec hz.1 hz.2.1,gh,Y0 C (show a.length+1<100000000000 by omega),kH];refine FY (fun k_ ts H=>∃i out c,k_=a.length-i/\ts.length=47/\gt ts 0=v/\gt ts 1=.int .u32 (m:Int)/\gt ts 7=.aI 0 0 (a.length+1) 1 (a.length+1)/\gt ts 8=.int .u64 (c:Nat)/\gt ts 17=v/\gt ts 18=.int .i64 (a.length:Nat)/\gt ts 19=.int .i64 (i:Nat)/\H=[.cells .live (cB out)]/\(i<=a.length)/\(out.length=a.length+1)/\(∀d∈out,d<4294967296)/\(c<4294967296)/\(val (out.take i)+4294967296^i*c=val (a.take i)*m+p)) (a.length) ?_ ?_
 rotate_left
 ·refine⟨0,aLu (a.length+1) 0,p,(by first|omega|rfl|simp),(by simp only[aQx,hl]),?_⟩;simp only[aY,hl,aa,ae,g0,g1]
  iterate 8 refine cI ?_
  refine⟨?_,?_,?_,?_,?_⟩
  ·first|omega|trivial
  ·first|simp|trivial
  ·first|exact BM|trivial
  ·first|omega|trivial
  ·first|simp[val]|trivial
 clear hl g0 g1 g2 ts;rintro k_ ts H ⟨i,out,c,rfl,hl,g0,g1,g7,g8,g17,g18,g19,rfl,hi,ho,hd,hc,hv⟩;by_cases sK:i<a.length
 ·have oW:decide ((i:Int)<(a.length:Int))=true:=bj;have EL:=ji T ha (k:=.i64) (z:=(i:Int));rw[aRs]at EL;have zZ:=fun H=>oD T (l:=a) (H:=H) sK
  have qe:=fA ha.1 (i:=i);generalize hx:a.getD i 0=x at zZ qe;have XQ:x*m<=4294967295*4294967295:=Nat.mul_le_mul (by omega) (by omega);have wx:aW .u64 (x:Int)=x:=wrap_u64;have w3:aW .u64 ((x:Int)*(m:Int))=((x*m:Nat):Int):=by rw[<-aSn];exact wrap_u64
  have w4:aW .u64 ((c:Int)+((x*m:Nat):Int))=((c+x*m:Nat):Int):=by rw[<-aSo];exact wrap_u64
  have w5:aW .i64 ((i:Int)+1)=((i+1:Nat):Int):=by rw[wrap_i64];simp
  have zV:=JD C (b:=0) (n:=a.length+1) (k:=.i64) (z:=(i:Int));rw[aRs]at zV;have ik:i<out.length:=by omega
  have dx:=fun z H=>qj (H:=H) (z:=z) ik
  simp only[↓reduceIte,eZ,jI,fu,eo,eY,cP,dX,jG,fj,fD,dE,eO,cU,fU,eQ,fQ,tG,b8,aT,de,aQ,dh,aU,bA,aN,aZ,aQx,kL,Mc,fZ,aa,ne_eq,ae,not_false_eq_true,aL4,aQ9,aL5,bC,aRi,aRc,cu,eJ,aMi,gG,gF,hl,g0,g1,g7,g8,g17,g18,g19,oW,EL,zZ,zV,dx,ec hz.1 hz.2.1,ec hz.2.1 hz.1,gh,wx,wm,w3,w4,w5,wrap_u32,jJ,jD (sj C),AV.cells];refine⟨_,(by first|omega|(simp;omega)),i+1,out.set i ((c+x*m)%4294967296),(c+x*m)/4294967296,rfl,(by first|trivial|rfl|assumption|(congr 1;omega)|(simp;done)|(simp;omega)),(by first|trivial|rfl|assumption|(congr 1;omega)|(simp;done)|(simp;omega)),(by first|trivial|rfl|assumption|(congr 1;omega)|(simp;done)|(simp;omega)),(by first|trivial|rfl|assumption|(congr 1;omega)|(simp;done)|(simp;omega)),(by first|trivial|rfl|assumption|(congr 1;omega)|(simp;done)|(simp;omega)),(by first|trivial|rfl|assumption|(congr 1;omega)|(simp;done)|(simp;omega)),(by first|trivial|rfl|assumption|(congr 1;omega)|(simp;done)|(simp;omega)),(by first|trivial|rfl|assumption|(congr 1;omega)|(simp;done)|(simp;omega)),(by first|trivial|rfl|assumption|(congr 1;omega)|(simp;done)|(simp;omega)),?_,?_,?_,?_,?_⟩
  ·omega
  ·simpa using ho
  ·exact cZ hd
  ·omega
  ·rw[eH ik,cA sK,hx];have e1:4294967296^(i+1)*((c+x*m)/4294967296)=4294967296^i*(4294967296*((c+x*m)/4294967296)):=by rw[Nat.pow_succ,aRv]
   have e2:4294967296^i*((c+x*m)%4294967296)+4294967296^i*(4294967296*((c+x*m)/4294967296))=4294967296^i*c+4294967296^i*(x*m):=by rw[<-aRe,Nat.mod_add_div,aRe]
   have e3:(val (a.take i)+4294967296^i*x)*m=val (a.take i)*m+4294967296^i*(x*m):=by rw[Nat.add_mul,aRv]
   omega
 ·have oW:decide ((i:Int)<(a.length:Int))=false:=bh (by omega);obtain rfl:i=a.length:=by omega
  have zV:=JD C (b:=0) (n:=a.length+1) (k:=.i64) (z:=(a.length:Int));rw[aRs]at zV;have ik:a.length<out.length:=by omega
  have dx:=fun z H=>qj (H:=H) (z:=z) ik
  have wN:∀d∈out.set a.length (c%4294967296),d<4294967296:=cZ hd;have Bf:eB (.aK (cB (out.set a.length (c%4294967296))) (a.length+1)) (out.set a.length (c%4294967296)):=⟨wN,.inl (by rw[aQx,ho])⟩;obtain⟨r,hr,Ee⟩:=je C Bf (by rw[aQx];omega);have kB:=dB hr;have gH:sI false [.cells .live (cB (out.set a.length (c%4294967296)))] [.aI 0 0 (a.length+1) 1 (a.length+1)]=some ([.aK (cB (out.set a.length (c%4294967296))) (a.length+1)],[0]):=by
   rw[xF]
   have:=tD (H:=[.cells .live (cB (out.set a.length (c%4294967296)))]) (b:=0) (l:=out.set a.length (c%4294967296)) (st:=.live) rfl
   rwa[aQx,ho]at this
  simp only[↓reduceIte,eZ,jI,fu,eo,eY,cP,dX,jG,fj,fD,dE,jx,eO,cU,fU,eQ,fQ,tG,b8,aT,cM,de,dd,aQ,dh,mH,aU,nO,bA,aN,aZ,aQx,kL,fZ,aa,ne_eq,ae,not_false_eq_true,aL4,aQ9,aL5,bC,aRi,aRc,cu,eJ,aMi,gG,gF,hl,g0,g1,g7,g8,g17,g18,g19,oW,zV,dx,ec hz.1 hz.2.1,ec hz.2.1 hz.1,gh,wrap_u32,dG T ha,jD (sj C),AV.cells,gH,kB,aO Ee,aLT];refine⟨_,Ee,iT _,?_,?_⟩
  ·rw[hJ];have h1:=eH (l:=out) (d:=c%4294967296) ik;rw[aPk (by rw[aQx];omega)]at h1;rw[h1,aSm hc,hv,aPk (aLt _)]
  ·obtain⟨n,hn⟩:=pU (out.set a.length (c%4294967296))
   have:=congrArg List.length hn
   rw[aQx,List.length_append]at this;omega
section
variable{E:Env}{c:Bool}{t:Nat}
def GD{k:IntKind}{a b:Nat}(h:b≠0):cp E c .quo t (.int k (a:Int)) (.int k (b:Int))=some (.int k (aW k ((a/b:Nat):Int))):=by rw[ah5 (by omega)];rfl
def mC{k:IntKind}{a b:Nat}(h:b≠0:=by omega):cp E c .rem t (.int k (a:Int)) (.int k (b:Int))=some (.int k ((a%b:Nat):Int)):=by rw[ah6 (by omega)];rfl
def oa{n a:Nat}(h:a<2^n:=by omega):(BitVec.ofInt n (a:Int)).toNat=a:=by rw[BitVec.ofInt_natCast,BitVec.toNat_ofNat,aSm h]
def xU{a b:Nat}(ha:a<18446744073709551616:=by omega)(hb:b<18446744073709551616:=by omega):cp E c .or t (.int .u64 (a:Int)) (.int .u64 (b:Int))=some (.int .u64 ((a|||b:Nat):Int)):=by
 have h:a|||b<2^64:=aSq (by omega) (by omega)
 simp only[cp,k8,ne_eq,not_true_eq_false,if_false];rw[show IntKind.u64.bits=64 from rfl,BitVec.toNat_or,oa,oa,wrap_u64]
def PF{a b:Nat}(ha:a<4294967296)(hb:b<4294967296):cp E c .or t (.int .u32 (a:Int)) (.int .u32 (b:Int))=some (.int .u32 ((a|||b:Nat):Int)):=by
 have h:a|||b<2^32:=aSq (by omega) (by omega)
 simp only[cp,k8,ne_eq,not_true_eq_false,if_false];rw[show IntKind.u32.bits=32 from rfl,BitVec.toNat_or,oa,oa,wrap_u32,aSm (by omega)]
def xW{k k':IntKind}{a n:Nat}(h:n<=k.bits):cp E c .shl t (.int k (a:Int)) (.int k' (n:Int))=some (.int k (aW k ((a*2^n:Nat):Int))):=by
 simp only[cp];rw[if_neg (by omega),aRs,Nat.min_eq_left h]
 simp
def BA{k k':IntKind}{a n:Nat}(h:n<=k.bits:=by decide):cp E c .shr t (.int k (a:Int)) (.int k' (n:Int))=some (.int k ((a/2^n:Nat):Int)):=by
 simp only[cp];rw[if_neg (by omega),aRs,Nat.min_eq_left h,Int.fdiv_eq_ediv_of_nonneg _ (by exact Int.le_of_lt (Int.pow_pos (by decide)))]
 simp
def sZ{a:Nat}{k':IntKind}(h:a<4294967296):cp E c .shl t (.int .u64 (a:Int)) (.int k' 32)=some (.int .u64 ((a*4294967296:Nat):Int)):=by
 have:=xW (E:=E) (c:=c) (t:=t) (k:=.u64) (k':=k') (a:=a) (n:=32) (by decide)
 rw[show(2:Nat)^32=4294967296 from rfl,wrap_u64]at this;exact this
def Ok{r d:Nat}(h:d<4294967296):(r*4294967296)|||d=r*4294967296+d:=by
 have:=Nat.shiftLeft_add_eq_or_of_lt (i:=32) (b:=d) (by omega) r
 rw[Nat.shiftLeft_eq]at this;exact this.symm
end
def OO:Code:=(match Tryz.f112.body with|some c=>c|none=>.skip)
def WX:E0.fn 112=some {code:=OO,ntmps:=43,results:=[.tmp 4,.tmp 5],pure:=true,eD:=false}:=by kernel_rfl
def wj{l:List Nat}{k:Nat}(h0:0<k)(h:k<=l.length):val (l.drop (k-1))=l.getD (k-1) 0+4294967296*val (l.drop k):=by
 have hk:k-1<l.length:=by omega
 rw[List.drop_eq_getElem_cons hk,show k-1+1=k by omega];simp[val,aRt,hk]
def vY{l:List Nat}{k d:Nat}(h0:0<k:=by omega)(h:k<=l.length:=by omega):val ((l.set (k-1) d).drop (k-1))=d+4294967296*val (l.drop k):=by rw[wj h0 (by simpa using h),aSp (by omega),aRt,aOl (by omega)];rfl
def OP{E:Env}(C:Ctx E){v:AV}{a:List Nat}(ha:eB v a)(la:a.length<10000000001){m:Nat}(h0:m≠0)(hm:m<4294967296):
  ∃r,aP E 112 [v,.int .u32 (m:Int)]=some (.tuple [r,.int .u32 ((val a%m:Nat):Int)])/\∃l,eB r l/\Norm l/\val l=val a/m:=by
 suffices hh:∃u,aP E 112 [v,.int .u32 (m:Int)]=some u/\∃r,u=.tuple [r,.int .u32 ((val a%m:Nat):Int)]/\∃l,eB r l/\Norm l/\val l=val a/m by
  obtain⟨u,h1,r,rfl,h2⟩:=hh;exact⟨r,h1,h2⟩
 refine fn2 (C.ov 112 _ (by decide)) (by rw[C.fn];exact WX) rfl (by decide) ?_;intro ts hl g0 g1;have T:=gW C.toOver;have hz:=qx C;show W E OO ts [] _
 unfold OO;have w1:aW .i64 ((a.length:Int)-1)=(a.length:Int)-1:=by rw[wrap_i64]
 have wm:aW .u64 (m:Int)=m:=wrap_u64;simp only[Tryz.f112,nH,fu,eo,cP,sT,dX,jf,gK,rO,auX,eO,cU,fQ,mO,dP,oz,b8,aT,cM,bR,k9,aQ,dh,lA,qB,dO,gA,cG,fF,aV,aU,aRf,nO,bA,aN,aZ,aQx,l8,aa,ne_eq,ae,not_false_eq_true,aL4,aQ9,aL5,bC,aRc,cu,hl,g0,dG T ha,w1,Y0 C (show a.length<100000000000 by omega),kH];refine FY (fun k_ ts H=>∃i out c,k_=0+i/\ts.length=43/\gt ts 0=v/\gt ts 1=.int .u32 (m:Int)/\gt ts 6=.aI 0 0 a.length 1 a.length/\gt ts 7=.int .u64 (c:Nat)/\gt ts 8=.int .i64 ((i:Int)-1)/\H=[.cells .live (cB out)]/\(i<=a.length)/\(out.length=a.length)/\(∀d∈out,d<4294967296)/\(c=val (a.drop i)%m)/\(val (out.drop i)=val (a.drop i)/m)) (a.length) ?_ ?_
 rotate_left
 ·refine⟨a.length,aLu a.length 0,0,(by first|omega|rfl|simp),(by simp only[aQx,hl]),?_⟩;simp only[aY,hl,aa,ae,g0,g1]
  iterate 6 refine cI ?_
  refine⟨?_,?_,?_,?_,?_⟩
  ·first|omega|trivial
  ·first|simp|trivial
  ·first|exact BM|trivial
  ·first|simp[val]|trivial
  ·first|simp[val]|trivial
 clear hl g0 g1 ts;rintro k_ ts H ⟨i,out,c,rfl,hl,g0,g1,g6,g7,g8,rfl,hi,ho,hd,hc,hv⟩;have hcm:c<m:=by rw[hc];exact Nat.mod_lt _ (by omega)
 by_cases sK:0<i
 ·have oW:decide ((i:Int)-1≥0)=true:=bj;have EL:=ji T ha (k:=.i64) (z:=(i:Int)-1);rw[show((i:Int)-1).toNat=i-1 by omega]at EL;have zZ:=fun H=>oD T (l:=a) (H:=H) (show i-1<a.length by omega)
  have qe:=fA ha.1 (i:=i-1);generalize hx:a.getD (i-1) 0=x at zZ qe;have wx:aW .u64 (x:Int)=x:=wrap_u64;have hor:(c*4294967296)|||x=c*4294967296+x:=Ok qe
  have hq:(c*4294967296+x)/m<4294967296:=by
   rw[Nat.div_lt_iff_lt_mul (by omega)]
   have:(c+1)*4294967296<=m*4294967296:=Nat.mul_le_mul_right _ hcm
   rw[Nat.mul_comm 4294967296 m];omega
  have wq:aW .u64 (((c*4294967296+x)/m:Nat):Int)=((c*4294967296+x)/m:Nat):=wrap_u64;have w5:aW .i64 ((i:Int)-1-1)=(i:Int)-1-1:=by rw[wrap_i64]
  have zV:=JD C (b:=0) (n:=a.length) (k:=.i64) (z:=(i:Int)-1);rw[show((i:Int)-1).toNat=i-1 by omega]at zV;have ik:i-1<out.length:=by omega
  have dx:=fun z H=>qj (H:=H) (z:=z) ik
  simp only[↓reduceIte,eZ,jI,fu,eo,eY,cP,dX,jG,fj,fD,dE,eO,cU,fU,eQ,fQ,tG,b8,aT,de,aQ,dh,aU,aRf,bA,aN,aZ,aQx,l8,zw,aa,ne_eq,ae,not_false_eq_true,aL5,bC,aRi,aRc,cu,eJ,aMi,gG,gF,hl,g0,g1,g6,g7,g8,oW,EL,zZ,zV,dx,ec hz.1 hz.2.1,ec hz.2.1 hz.1,gh,wx,wm,wq,w5,wrap_u32,sZ (show c<4294967296 by omega),xU (show c*4294967296<18446744073709551616 by omega) (show x<18446744073709551616 by omega),hor,GD h0,mC h0,jD (sj C),AV.cells];have Jm:=wj sK hi;rw[hx]at Jm;have hdiv:=Nat.div_add_mod (val (a.drop i)) m;rw[<-hc]at hdiv;have key:val (a.drop (i-1))=(c*4294967296+x)+m*(4294967296*(val (a.drop i)/m)):=by
   rw[Jm,<-hdiv,aRe,hdiv]
   have:4294967296*(m*(val (a.drop i)/m))=m*(4294967296*(val (a.drop i)/m)):=by ac_rfl
   omega
  refine⟨_,(by first|omega|(simp;omega)),i-1,out.set (i-1) ((c*4294967296+x)/m%4294967296),(c*4294967296+x)%m,rfl,(by first|trivial|rfl|assumption|(congr 1;omega)|(simp;done)|(simp;omega)),(by first|trivial|rfl|assumption|(congr 1;omega)|(simp;done)|(simp;omega)),(by first|trivial|rfl|assumption|(congr 1;omega)|(simp;done)|(simp;omega)),(by first|trivial|rfl|assumption|(congr 1;omega)|(simp;done)|(simp;omega)),(by first|trivial|rfl|assumption|(congr 1;omega)|(simp;done)|(simp;omega)),(by first|trivial|rfl|assumption|(congr 1;omega)|(simp;done)|(simp;omega)),(by first|trivial|rfl|assumption|(congr 1;omega)|(simp;done)|(simp;omega)),?_,?_,?_,?_,?_⟩
  ·omega
  ·simpa using ho
  ·exact cZ hd
  ·rw[key,Nat.add_mul_mod_self_left]
  ·rw[vY sK,hv,key,Nat.add_mul_div_left _ _ (by omega),aSm hq]
 ·have oW:decide ((i:Int)-1≥0)=false:=bh (by omega);obtain rfl:i=0:=by omega
  simp only[aRj]at hc hv;have Bf:eB (.aK (cB out) a.length) out:=⟨hd,.inl (by rw[ho])⟩;obtain⟨r,hr,Ee⟩:=je C Bf;have kB:=dB hr;have gH:sI false [.cells .live (cB out)] [.aI 0 0 a.length 1 a.length]=some ([.aK (cB out) a.length],[0]):=by
   rw[xF]
   have:=tD (H:=[.cells .live (cB out)]) (b:=0) (l:=out) (st:=.live) rfl
   rwa[ho]at this
  simp only[↓reduceIte,eZ,jI,fu,eo,eY,cP,dX,jG,fj,fD,dE,jx,eO,cU,fU,eQ,fQ,tG,b8,aT,dd,aQ,dh,mH,aU,aRo,bA,aN,aZ,aQx,l8,zw,aa,ne_eq,ae,not_false_eq_true,aL5,bC,aRi,aRc,gG,gF,hl,g0,g1,g6,g7,g8,oW,ec hz.1 hz.2.1,ec hz.2.1 hz.1,gh,wrap_u32,gH,kB,aO Ee,aLT];refine⟨r,?_,_,Ee,iT _,?_⟩
  ·rw[aSm (by omega),hc]
  ·rw[hJ,hv]
end Go.Proofs.YtmkjgfnicfpjpaaGreatDoor
