/- Lemmas for AssemblyChecks; no condition. -/
import Derived.Test.YtmkjgfnicfpjpaaGreatDoorTao
set_option linter.all false
set_option maxHeartbeats 100000000
set_option maxRecDepth 100000
noncomputable section
open Nat renaming mul_add->aQp,mul_le_mul_left->aQP,pow_succ->aQF,two_pow_pos->aRZ,mul_comm->aR0,lt_of_le_of_lt->aR1,mul_le_mul_right->aLa,mod_lt->aR2,le_refl->aKE,lt_of_lt_of_le->aNb,mul_assoc->aQG,pow_le_pow_right->aR3,add_zero->aOx,mod_eq_of_lt->aRx,lt_of_mul_lt_mul_left->aR5,mul_zero->aQQ,pow_lt_pow_iff_right->aR6,pow_add->aR8,add_comm->aSa,shiftLeft_add_eq_or_of_lt->aSb,add_mul->aK8,mul_one->aQS,mul_lt_mul_of_pos_right->aSd,div_eq_of_lt->aSe,le_of_not_lt->aSf,mod_add_div->aSg,div_le_self->aSh,min_eq_left->aSi,mul_le_mul->aSj,mul_mod_mul_right->aSk,div_lt_iff_lt_mul->aSl,add_mul_div_right->aSm,div_lt_of_lt_mul->aSn,div_mul_le_self->aSp,mul_div_cancel->aSq,pos_of_ne_zero->aSr,add_sub_cancel->aSs,one_mul->aSu,reduceLT->aa,reduceEqDiff->ae,reduceAdd->ah,reduceBEq->aj
open List renaming getD->aQE,length_take->aOw,getElem?_set_self->aNv,getElem?_set_ne->aNt,mem_of_mem_take->aQN,getElem?_eq_getElem->aLh,drop_of_length_le->aR9,take_of_length_le->aOv,length_drop->aOu,getElem?_eq_none->aKG,take_append_drop->aOC,length_pos_iff->aSc,drop_eq_getElem_cons->aQI,take_length->aOz,length_nil->aQk,take_set_of_le->aSo,getElem?_drop->aKJ
open Int renaming toNat_natCast->aQD,natCast_add->aRz,mul_le_mul_of_nonneg_left->aR4,natCast_mul->aRy,natCast_dvd_natCast->aR7,emod_eq_of_lt->aSt,reduceLT->aq,reduceToNat->ar,reduceGT->au,reduceBEq->aD,reduceBNe->aE
open Bool renaming false_eq_true->aK4
namespace Go.Proofs.YtmkjgfnicfpjpaaGreatDoor
open Go Dv
variable{E:Env}[C:Ctx E]
def lF{v:AV}{l:List Nat}(h:eC v l):kC v=some (l.length:Int):=by
 rcases h.2 with rfl|⟨rfl,rfl|rfl⟩<;>rfl
def Ob{d n:Nat}(hd:d<4294967296)(hn:n<32):d*2^n<9223372036854775808:=by have h1:2^n<=2^31:=aR3 (by omega) (by omega);have h2:d*2^n<=4294967295*2^31:=aSj (by omega) h1;omega
def aeJ{d n:Nat}(hn:n<32):∃q,d*2^n%4294967296=q*2^n:=by
 refine⟨d%2^(32-n),?_⟩
 have:(4294967296:Nat)=2^(32-n)*2^n:=by rw[<-aR8,show 32-n+n=32 by omega]
 rw[this,aSk]
def Zj{r d n:Nat}(hr:r<2^n)(hn:n<32):(r|||(d*2^n%4294967296))=r+d*2^n%4294967296:=by
 obtain⟨q,hq⟩:=aeJ (d:=d) hn;rw[hq]
 have:=aSb (i:=n) (b:=r) hr q
 rw[Nat.shiftLeft_eq]at this;rw[Nat.or_comm,<-this,aSa]
def al4{d n:Nat}(hd:d<4294967296):d*2^n/4294967296<2^n:=by rw[aSl (by omega),aR0];exact Nat.mul_lt_mul_of_pos_left hd (aRZ n)
def auY{r d n:Nat}(hr:r<2^n)(hn:n<32):r+d*2^n%4294967296<4294967296:=by rw[<-Zj hr hn];have h1:2^n<=2^32:=aR3 (by omega) (by omega);exact Nat.or_lt_two_pow (n:=32) (by omega) (aR2 _ (by decide))
def AX{v:AV}{a:List Nat}(ha:eC v a)(la:a.length<10000000001){n:Nat}(hn:n<32){H0:Hp}:
  ∃r H',cR E 189 [v,.int .i64 (n:Int)] H0=some (r,H')/\∃out,r=.aI H0.length 0 (a.length+1) 1 (a.length+1)/\H'=H0++[.cells .live (cA out)]/\out.length=a.length+1/\(∀d∈out,d<4294967296)/\val out=val a*2^n:=by
 refine gi2 (fV C) (by rw[C.fn];exact arl) (by decide) ?_;intro ts hl g0 g1;have T:=gW C.toOver;unfold aoR;have w1:aW .i64 ((a.length:Int)+1)=((a.length+1:Nat):Int):=by rw[wrap_i64];simp
 simp only[↓aL,jg,aJ,aa,ae,gX,cp,Tryz.f189,hl,g0,lF ha,w1,ahf (show a.length+1<=100000000000 by omega),K5,dN];refine cE (fun k_ ts H=>∃i out,k_=a.length-i/\ts.length=40/\gt ts 1=.int .i64 (n:Int)/\gt ts 5=.aI H0.length 0 (a.length+1) 1 (a.length+1)/\gt ts 12=v/\gt ts 13=.int .i64 (a.length:Nat)/\gt ts 14=.int .i64 (i:Nat)/\H=H0++[.cells .live (cA out)]/\(i<=a.length)/\(out.length=a.length+1)/\(∀d∈out,d<4294967296)/\(out.getD i 0<2^n)/\(∀j,i<j->out.getD j 0=0)/\(val (out.take i)+4294967296^i*out.getD i 0=val (a.take i)*2^n)) (a.length) ?_ ?_
 rotate_left
 ·refine⟨0,List.replicate (a.length+1) 0,(by first|omega|rfl|simp),(by simp[bc,hl]),?_⟩;simp only[aZ,hl,aa,ae,g1]
  iterate 6 refine cG ?_
  refine⟨?_,?_,?_,?_,?_,?_⟩
  ·first|omega|trivial
  ·first|simp|trivial
  ·first|exact BO|trivial
  ·first|(simp[aQE];exact aRZ n)|trivial
  ·first|(intro j hj;rw[aQE,List.getElem?_replicate];split<;>rfl)|trivial
  ·first|simp[val,aQE]|trivial
 clear hl g0 g1 ts;rintro k_ ts H ⟨i,out,rfl,hl,g1,g5,g12,g13,g14,rfl,hi,ho,hd,hr,hz,hv⟩;refine VS ?_;by_cases sD:i<a.length
 ·have oT:decide ((i:Int)<(a.length:Int))=true:=bh;have ER:=ji T ha (k:=.i64) (z:=(i:Int));rw[aQD]at ER;have z7:=fK sD;have pZ:=fw ha.1 (i:=i);generalize hx:a.getD i 0=x at z7 pZ;have ik:i<out.length:=by omega
  have Sk:i+1<out.length:=by omega
  have ldo:=fK ik;have asG:=fw hd (i:=i);generalize iV:out.getD i 0=c at ldo hr hv asG;have c1:((i:Int)<((a.length+1:Nat):Int))=True:=eq_true (by omega);have c2:(((i+1:Nat):Int)<((a.length+1:Nat):Int))=True:=eq_true (by omega);have w2:aW .i64 ((i:Int)+1)=((i+1:Nat):Int):=by rw[wrap_i64];simp
  have hm:=Ob pZ hn;have wx:aW .u64 (x:Int)=x:=wrap_u64;have w3:aW .u64 ((x*2^n:Nat):Int)=((x*2^n:Nat):Int):=wrap_u64;have sh1:∀{cc:Bool} {t:Nat},cd E cc .shl t (.int .u32 (x:Int)) (.int .i64 (n:Int))=some (.int .u32 ((x*2^n%4294967296:Nat):Int)):=by
   intro cc t;rw[xR (show n<=IntKind.u32.bits by show n<=32;omega),wrap_u32]
  have sh2:∀{cc:Bool} {t:Nat},cd E cc .shl t (.int .u64 (x:Int)) (.int .i64 (n:Int))=some (.int .u64 ((x*2^n:Nat):Int)):=by
   intro cc t;rw[xR (show n<=IntKind.u64.bits by show n<=64;omega),w3]
  have Qj:∀{cc:Bool} {t:Nat},cd E cc .or t (.int .u32 (c:Int)) (.int .u32 ((x*2^n%4294967296:Nat):Int))=some (.int .u32 ((c+x*2^n%4294967296:Nat):Int)):=by intro cc t;rw[PB asG (aR2 _ (by decide)),Zj hr hn]
  have vI:=fun z=>Ro (H:=H0) (z:=z) ik
  have XJ:=fun z=>Ro (H:=H0) (z:=z) (out:=out.set i (c+x*2^n%4294967296)) (j:=i+1) (by simpa using Sk)
  simp only[↓aL,jg,aJ,↓reduceIte,aa,ah,ae,gI,cp,↓eh fX gU,↓eh gU fX,hl,g1,g5,g12,g13,g14,oT,ER,z7,ldo,IT,c1,c2,w2,wx,sh1,sh2,Qj,vI,XJ,Tk,jI,wrap_u32,AV.cells];refine bK ?_;refine⟨_,?_,i+1,(out.set i (c+x*2^n%4294967296)).set (i+1) (x*2^n/4294967296%4294967296),rfl,(by simp[bc,hl]),?_⟩
  ·first|omega|(simp;omega)
  simp only[aZ,hl,aa,ae,g1,g5,g12,g13]
  iterate 6 refine cG ?_
  refine⟨?_,?_,?_,?_,?_,?_⟩
  all_goals have EG:=al4 (n:=n) pZ
  all_goals have aGT:2^n<=2^32:=aR3 (by omega) (by omega)
  all_goals have atq:x*2^n/4294967296%4294967296=x*2^n/4294967296:=aRx (by omega)
  ·omega
  ·simpa using ho
  ·exact cZ (cZ hd (auY hr hn)) (aR2 _ (by decide))
  ·rw[aQE,aNv (by simpa using Sk),atq];exact EG
  ·intro j hj;rw[aQE,aNt (by omega),aNt (by omega)];exact hz j (by omega)
  ·rw[aSo (aKE _),eI ik,atq];have e0:((out.set i (c+x*2^n%4294967296)).set (i+1) (x*2^n/4294967296)).getD (i+1) 0=x*2^n/4294967296:=by rw[aQE,aNv (by simpa using Sk)];rfl
   rw[e0,cu sD,hx,aK8,<-hv,aQp,aQF,aQG,aQG];have e2:4294967296^i*(x*2^n%4294967296)+4294967296^i*(4294967296*(x*2^n/4294967296))=4294967296^i*(x*2^n):=by rw[<-aQp,aSg]
   omega
 ·have oT:decide ((i:Int)<(a.length:Int))=false:=bj;obtain rfl:i=a.length:=by omega
  simp only[↓aL,jg,↓reduceIte,aa,ae,hl,g5,g13,g14,oT];refine⟨out,rfl,ho,hd,?_⟩;have h1:=qP (l:=out) (i:=a.length) (by omega);rw[aR9 (by omega)]at h1;rw[h1];simp only[val,aQQ,aOx];rw[hv,aOv (aKE _)]
def rh{E:Env}{t n' rU:Nat}{ag:Bool}{z:List AV}(h:dV E t=some (ag,n',rU,z)){c:Bool}{a:AV}(ha:kC a≠none):cd E c .eql t a .aH=some (.bool (match a with|.aH=>true|_=>false)):=by
 obtain⟨i,e,ei,h1,h2,_⟩:=iR h;obtain⟨cD,jA,jS,jB,jZ,dQ⟩:=i;simp only at h2;subst h2;cases a<;>first|(exact absurd rfl ha)|simp[cd,cd.rY,qi,h1]
def IP{aP:Nat}:bQ E aP 56 0 []=some (.aI aP 0 0 1 0,[(aP,.cells .live [])]):=by obtain⟨i,e,ei,h1,h2,h3,h4,h5,h6,h7⟩:=iR (Bu (E:=E));obtain⟨cD,jA,jS,jB,jZ,dQ⟩:=i;simp only at h2;subst h2;simp[bQ,h1,h3,h7,h5,fD,gD]
def Ta{l:List Nat}:(cA l).all cL=true:=by simp[cA,cL]
def RE{a:List Nat}(eQ:0<a.length)(la:a.length<10000000001):bB E [.cells .live []] 1 .append [56,56] [.aI 0 0 0 1 0,.aK (cA a) a.length]=some (.aI 1 0 a.length 1 a.length,[(0,.cells .dead []),(1,.cells .live (cA a))]):=by
 obtain⟨i,e,ei,h1,h2,h3,h4,h5,h6,h7⟩:=iR (Bu (E:=E));have hs:mX [.cells .live []] ei.size (.aK (cA a) a.length)=some (cA a):=by simp[mX,gO,mY,h5]
 have:=qY (E:=E) (H:=[.cells .live []]) (aP:=1) (b:=0) (off:=0) (len:=0) (kc:=0) (n:=a.length) (cs:=[]) h1 h2 h3 (x:=.aK (cA a) a.length) rfl hs eQ (by omega) Ta (by simp[h7]) (by rw[h6];unfold eU;omega) (by omega) rfl (by omega) (by omega)
 rw[builtin_append h1 h2 rfl];simpa[h5]using this
def L3{v:AV}(hv:v=.dx∨v=.aK [] 0):bB E [.cells .live []] 1 .append [56,56] [.aI 0 0 0 1 0,v]=some (.aI 0 0 0 1 0,[]):=by
 obtain⟨i,e,ei,h1,h2,h3,h4,h5,h6,h7⟩:=iR (Bu (E:=E));obtain⟨cD,jA,jS,jB,jZ,dQ⟩:=i;simp only at h2;subst h2;rcases hv with rfl|rfl<;>simp[bB,h1,dT,h3,qM,l9,mX,gO]
def Mj{a:List Nat}(eQ:0<a.length)(la:a.length<10000000001):cR E 233 [.aK (cA a) a.length] []=some (.aI 1 0 a.length 1 a.length,[.cells .dead [],.cells .live (cA a)]):=by
 suffices hh:∃r H',cR E 233 [.aK (cA a) a.length] []=some (r,H')/\(r=.aI 1 0 a.length 1 a.length/\H'=[.cells .dead [],.cells .live (cA a)])by
  obtain⟨r,H',h1,rfl,rfl⟩:=hh;exact h1
 refine gi1 (fV C) (by rw[C.fn];exact age) (by decide) ?_;intro ts hl g0;unfold aiF;simp only[↓aL,jg,↓reduceIte,aa,ae,Tryz.f233,hl,g0,rh (Bu (E:=E)) (show kC (.aK (cA a) a.length)≠none by simp[kC]),IP,RE eQ la,cC.app,List.foldl_cons,List.foldl_nil,cJ]
 first|done|trivial|exact⟨rfl,rfl⟩
def IY{v:AV}(hv:v=.aH∨v=.dx∨v=.aK [] 0):∃r H',cR E 233 [v] []=some (r,H')/\((r=.aH/\H'=[])∨(r=.aI 0 0 0 1 0/\H'=[.cells .live []])):=by
 refine gi1 (fV C) (by rw[C.fn];exact age) (by decide) ?_;intro ts hl g0;unfold aiF;rcases hv with rfl|hv
 ·simp only[↓aL,jg,aa,ae,Tryz.f233,hl,g0,rh (Bu (E:=E)) (show kC .aH≠none by simp[kC])]
  first|trivial|exact .inl ⟨rfl,rfl⟩|exact .inl trivial
 ·have hn:cd E true .eql 56 v .aH=some (.bool false):=by
   rw[rh (Bu (E:=E)) (by rcases hv with rfl|rfl<;>simp[kC])];rcases hv with rfl|rfl<;>rfl
  simp only[↓aL,jg,↓reduceIte,aa,ae,Tryz.f233,hl,g0,hn,IP,L3 hv,cC.app,List.foldl_cons,List.foldl_nil,cJ]
  first|trivial|exact .inr ⟨rfl,rfl⟩|exact .inr trivial
def SN{x y n:Nat}(hx:x<4294967296)(hn:n<32):(x/2^n|||(y*4294967296/2^n%4294967296))=x/2^n+(y%2^n)*2^(32-n)/\x/2^n+(y%2^n)*2^(32-n)<4294967296:=by
 have hp:(4294967296:Nat)=2^(32-n)*2^n:=by rw[<-aR8,show 32-n+n=32 by omega]
 have h1:y*4294967296/2^n=y*2^(32-n):=by
  conv=>lhs;rw[hp,<-aQG]
  exact aSq _ (aRZ n)
 have h2:y*2^(32-n)%4294967296=(y%2^n)*2^(32-n):=by
  conv=>lhs;rw[hp,aR0 (2^(32-n)) (2^n)]
  exact aSk _ _ _
 have h3:x/2^n<2^(32-n):=by rw[aSl (aRZ n),<-hp];exact hx
 rw[h1,h2];have h4:=aSb (i:=32-n) (b:=x/2^n) h3 (y%2^n);rw[Nat.shiftLeft_eq]at h4;refine⟨by rw[Nat.or_comm,<-h4,aSa],?_⟩;have h5:(y%2^n+1)*2^(32-n)<=2^n*2^(32-n):=aLa _ (aR2 _ (aRZ n));rw[aK8,aSu,aR0 (2^n) (2^(32-n)),<-hp]at h5;omega
def Dh{P Q VO VA x r0:Nat}(Xi:Q*(x/Q)+x%Q=x)(hv:Q*VO+r0=VA+P*(x%Q)):Q*(VO+P*(x/Q))+r0=VA+P*x:=by
 have e2:P*x=P*(Q*(x/Q))+P*(x%Q):=by rw[<-aQp,Xi]
 have e3:Q*(P*(x/Q))=P*(Q*(x/Q)):=by ac_rfl
 rw[aQp,e3];omega
def N5{P Q R B VO VA x y r0:Nat}(hB:B=R*Q)(Xi:Q*(x/Q)+x%Q=x)(hv:Q*VO+r0=VA+P*(x%Q)):Q*(VO+P*(x/Q+y%Q*R))+r0=VA+P*x+P*B*(y%Q):=by
 have h1:=Dh Xi hv;have e1:Q*(VO+P*(x/Q+y%Q*R))=Q*(VO+P*(x/Q))+P*B*(y%Q):=by
  rw[aQp P,<-Nat.add_assoc,aQp Q (VO+P*(x/Q)),hB];congr 1
  ac_rfl
 omega
def Hn{v:AV}{a:List Nat}(ha:eC v a)(la:a.length<10000000001){n:Nat}(hn:n<32):
  ∃r,aR E 191 [v,.int .i64 (n:Int)]=some r/\∃l,eC r l/\Norm l/\val l=val a/2^n:=by
 refine pX aro ?_;intro ts hl g0 g1;have T:=gW C.toOver;unfold aoS;by_cases eQ:a.length=0
 ·have tB:a=[]:=List.eq_nil_of_length_eq_zero eQ;subst tB;have hv:v=.aH∨v=.dx∨v=.aK [] 0:=by
   rcases ha.2 with rfl|⟨_,rfl|rfl⟩
   ·exact .inr (.inr rfl)
   ·exact .inl rfl
   ·exact .inr (.inl rfl)
  obtain⟨r,H',hc,hrr⟩:=IY (E:=E) hv;have hmz:eC (.aK (cA []) 0) []:=⟨by simp,.inl rfl⟩;have hmn:eC .aH []:=⟨by simp,.inr ⟨rfl,.inl rfl⟩⟩;rcases hrr with⟨rfl,rfl⟩|⟨rfl,rfl⟩
  ·obtain⟨q,hq,XD⟩:=je C hmn (by simp);have hq':=dB hq;simp only[↓aL,jg,↓aT,aJ,aa,ae,gX,Kw,Tryz.f191,hl,g0,hc];refine cE (fun k_ ts H=>k_=0/\ts.length=45/\gt ts 5=.aH/\gt ts 10=.int .i64 0/\gt ts 11=.int .i64 0/\H=[]) (0) ?_ ?_
   rotate_left
   ·refine⟨(by first|omega|rfl|simp),(by simp[bc,hl]),?_⟩;simp only[aZ,hl,aa,ae];refine⟨?_,?_,?_,?_⟩
    iterate 4 first|trivial|rfl|(congr 1;omega)|(simp;done)|(simp;omega)
   clear hl g0 g1 ts;rintro k_ ts H ⟨rfl,hl,g5,g10,g11,rfl⟩;refine VS ?_;have hd:decide ((0:Int)<0)=false:=rfl;simp only[↓aL,jg,↓aT,aJ,↓reduceIte,aa,ae,aq,hl,g5,g10,g11,hq',aO XD];exact⟨_,XD,iU _,by rw[hJ];simp[val]⟩
  ·obtain⟨q,hq,XD⟩:=je C hmz (by simp);have hq':=dB hq;have fY:qR false [.cells .live []] [.aI 0 0 0 1 0]=some ([.aK (cA []) 0],[0]):=by rw[xC];exact tv (H:=[.cells .live (cA [])]) (b:=0) (l:=[]) (st:=.live) rfl
   simp only[↓aL,jg,↓aT,aJ,aa,ae,gX,Hm,Tryz.f191,hl,g0,hc];refine cE (fun k_ ts H=>k_=0/\ts.length=45/\gt ts 5=.aI 0 0 0 1 0/\gt ts 10=.int .i64 0/\gt ts 11=.int .i64 0/\H=[.cells .live []]) (0) ?_ ?_
   rotate_left
   ·refine⟨(by first|omega|rfl|simp),(by simp[bc,hl]),?_⟩;simp only[aZ,hl,aa,ae];refine⟨?_,?_,?_,?_⟩
    iterate 4 first|trivial|rfl|(congr 1;omega)|(simp;done)|(simp;omega)
   clear hl g0 g1 ts;rintro k_ ts H ⟨rfl,hl,g5,g10,g11,rfl⟩;refine VS ?_;have hd:decide ((0:Int)<0)=false:=rfl;simp only[↓aL,jg,↓aT,aJ,↓reduceIte,aa,ae,aq,hl,g5,g10,g11,fY,hq',aO XD];exact⟨_,XD,iU _,by rw[hJ];simp[val]⟩
 ·have Ju:0<a.length:=by omega
  obtain rfl:v=.aK (cA a) a.length:=by
   rcases ha.2 with rfl|⟨rfl,_⟩
   ·rfl
   ·simp at Ju
  simp only[↓aL,jg,↓aT,aJ,aa,ae,gX,Hm,Tryz.f191,hl,g0,Mj Ju la];refine cE (fun k_ ts H=>∃i out,k_=a.length-i/\ts.length=45/\gt ts 0=.aK (cA a) a.length/\gt ts 1=.int .i64 (n:Int)/\gt ts 5=.aI 1 0 a.length 1 a.length/\gt ts 10=.int .i64 (a.length:Nat)/\gt ts 11=.int .i64 (i:Nat)/\H=[.cells .dead [],.cells .live (cA out)]/\(i<=a.length)/\(out.length=a.length)/\(∀d∈out,d<4294967296)/\(∀j,i<=j->out.getD j 0=a.getD j 0)/\(2^n*val (out.take i)+a.getD 0 0%2^n=val (a.take i)+4294967296^i*(a.getD i 0%2^n))) (a.length) ?_ ?_
  rotate_left
  ·refine⟨0,a,(by first|omega|rfl|simp),(by simp[bc,hl]),?_⟩;simp only[aZ,hl,aa,ae,g0,g1]
   iterate 6 refine cG ?_
   refine⟨?_,?_,?_,?_,?_⟩
   ·first|omega|trivial
   ·first|trivial|trivial
   ·first|exact ha.1|trivial
   ·first|(intro j _;trivial)|trivial
   ·first|simp[val]|trivial
  clear hl g0 g1 ts;rintro k_ ts H ⟨i,out,rfl,hl,g0,g1,g5,g10,g11,rfl,hi,ho,hd,hs,hv⟩;refine VS ?_;have G2:=aRZ n;by_cases sD:i<a.length
  ·have oT:decide ((i:Int)<(a.length:Int))=true:=bh;have c1:((i:Int)<((a.length:Nat):Int))=True:=eq_true (by omega);have ik:i<out.length:=by omega
   have ldo:=fK ik;rw[hs i (aKE _)]at ldo;have pZ:=fw ha.1 (i:=i);have Xi:=Nat.div_add_mod (a.getD i 0) (2^n);have xk:=cu sD;generalize hx:a.getD i 0=x at ldo pZ Xi xk hv;have w2:aW .i64 ((i:Int)+1)=((i+1:Nat):Int):=by rw[wrap_i64];simp
   have sh1:∀{cc:Bool} {t:Nat},cd E cc .shr t (.int .u32 (x:Int)) (.int .i64 (n:Int))=some (.int .u32 ((x/2^n:Nat):Int)):=by
    intro cc t;exact BD (show n<=IntKind.u32.bits by show n<=32;omega)
   have vI:=fun z H=>qb (H:=H) (z:=z) ik
   have hxd:x/2^n<4294967296:=aR1 (aSh _ _) pZ;by_cases azn:i+1<a.length
   ·have Io:decide (((i+1:Nat):Int)<(a.length:Int))=true:=bh;have c2:(((i+1:Nat):Int)<((a.length:Nat):Int))=True:=eq_true (by omega);have z7:=fK azn;have adv:=fw ha.1 (i:=i+1);have aut:=fK (out:=out.set i (x/2^n)) (j:=i) (by simpa using ik);rw[show(out.set i (x/2^n)).getD i 0=x/2^n by rw[aQE,aNv ik];rfl]at aut;have e0:((out.set i (x/2^n)).set i (x/2^n+(a.getD (i+1) 0%2^n)*2^(32-n)))=out.set i (x/2^n+(a.getD (i+1) 0%2^n)*2^(32-n)):=by simp
    generalize hy:a.getD (i+1) 0=y at z7 adv e0;obtain⟨Qj,ek⟩:=SN (x:=x) (y:=y) pZ hn;have wy:aW .u64 (y:Int)=y:=wrap_u64;have sh2:∀{cc:Bool} {t:Nat},cd E cc .shr t (.int .u64 ((y*4294967296:Nat):Int)) (.int .i64 (n:Int))=some (.int .u64 ((y*4294967296/2^n:Nat):Int)):=by
     intro cc t;exact BD (show n<=IntKind.u64.bits by show n<=64;omega)
    have azK:∀{cc:Bool} {t:Nat},cd E cc .or t (.int .u32 ((x/2^n:Nat):Int)) (.int .u32 ((y*4294967296/2^n%4294967296:Nat):Int))=some (.int .u32 ((x/2^n+(y%2^n)*2^(32-n):Nat):Int)):=by intro cc t;rw[PB hxd (aR2 _ (by decide)),Qj]
    have XJ:=fun z H=>qb (H:=H) (z:=z) (out:=out.set i (x/2^n)) (j:=i) (by simpa using ik)
    simp only[↓aL,jg,Ci,aJ,↓reduceIte,aa,ah,ae,↓Cx fX gU,↓Cx gU fX,xd fX gU,xd gU fX,hl,g0,g1,g5,g10,g11,c1,c2,w2,wy,ldo,aut,z7,sh1,sh2,azK,vI,XJ,sV (show y<4294967296 by omega),wrap_u32,AV.cells];refine bK ?_;refine⟨_,?_,i+1,(out.set i (x/2^n)).set i (x/2^n+(y%2^n)*2^(32-n)),rfl,(by simp[bc,hl]),?_⟩
    ·first|omega|(simp;omega)
    simp only[aZ,hl,aa,ae,g0,g1,g5,g10]
    iterate 6 refine cG ?_
    refine⟨?_,?_,?_,?_,?_⟩
    ·omega
    ·simpa using ho
    ·rw[e0];exact cZ hd ek
    ·intro j hj;rw[e0,aQE,aNt (by omega)];exact hs j (by omega)
    ·rw[e0,eI ik,xk,hy,aQF];exact N5 (show(4294967296:Nat)=2^(32-n)*2^n by rw[<-aR8,show 32-n+n=32 by omega]) Xi hv
   ·have Io:decide (((i+1:Nat):Int)<(a.length:Int))=false:=bj;simp only[↓aL,jg,Ci,aJ,↓reduceIte,aa,ah,ae,hl,g0,g1,g5,g10,g11,Io,c1,w2,ldo,sh1,vI,AV.cells];refine bK ?_;refine⟨_,?_,i+1,out.set i (x/2^n),rfl,(by simp[bc,hl]),?_⟩
    ·first|omega|(simp;omega)
    simp only[aZ,hl,aa,ae,g0,g1,g5,g10]
    iterate 6 refine cG ?_
    refine⟨?_,?_,?_,?_,?_⟩
    ·omega
    ·simpa using ho
    ·exact cZ hd hxd
    ·intro j hj;rw[aQE,aNt (by omega)];exact hs j (by omega)
    ·have hz:a.getD (i+1) 0=0:=by rw[aQE,aKG (by omega)];rfl
     rw[eI ik,xk,hz,Nat.zero_mod,aQQ,aOx];exact Dh Xi hv
  ·have oT:decide ((i:Int)<(a.length:Int))=false:=bj;obtain rfl:i=a.length:=by omega
   have Bj:eC (.aK (cA out) a.length) out:=⟨hd,.inl (by rw[ho])⟩;obtain⟨q,hq,XD⟩:=je C Bj;have hq':=dB hq;have fY:qR false [.cells .dead [],.cells .live (cA out)] [.aI 1 0 a.length 1 a.length]=some ([.aK (cA out) a.length],[1]):=by
    rw[xC]
    have:=tv (H:=[.cells .dead [],.cells .live (cA out)]) (b:=1) (l:=out) (st:=.live) rfl
    rwa[ho]at this
   simp only[↓aL,jg,↓aT,aJ,↓reduceIte,aa,ae,hl,g5,g10,g11,oT,fY,hq',aO XD];refine⟨_,XD,iU _,?_⟩;rw[hJ];rw[aOv (aKE _),aOv (by omega)]at hv;have hz:a.getD a.length 0=0:=by rw[aQE,aKG (by omega)];rfl
   rw[hz]at hv;simp only[Nat.zero_mod,aQQ,aOx]at hv;have hr:=aR2 (a.getD 0 0) G2;symm;rw[<-hv,Nat.mul_add_div G2,aSe hr,aOx]
end Go.Proofs.YtmkjgfnicfpjpaaGreatDoor
namespace Dv.dR
def me{p a b:Nat}(h:p*a<p*b):a<b:=aR5 h
structure og(B P u v ul vl u0 u1 u2 v1 v2:Nat):Prop where
 hu:u=ul+P*(u2+B*(u0*B+u1))
 hv:v=vl+P*(v2+B*v1)
 ulP:ul<P
 vlP:vl<P
 u2B:u2<B
 u1B:u1<B
 v2B:v2<B
 v1p:0<v1
 lt:u<B*v
variable{B P u v ul vl u0 u1 u2 v1 v2:Nat}
def og.Pp(L:og B P u v ul vl u0 u1 u2 v1 v2):0<P:=by have:=L.ulP;omega
def og.Bp(L:og B P u v ul vl u0 u1 u2 v1 v2):0<B:=by have:=L.u2B;omega
def og.vp(L:og B P u v ul vl u0 u1 u2 v1 v2):P*B<=v:=by
 have h1:B*1<=B*v1:=aQP _ L.v1p;have h2:P*B<=P*(v2+B*v1):=aQP _ (by omega)
 have:=L.hv
 omega
def og.v0(L:og B P u v ul vl u0 u1 u2 v1 v2):0<v:=aNb (Nat.mul_pos L.Pp L.Bp) L.vp
def og.uX(L:og B P u v ul vl u0 u1 u2 v1 v2):u<P*(u2+B*(u0*B+u1)+1):=by have h1:=L.hu;have h2:=L.ulP;rw[aQp P _ 1,aQS];omega
def og.vW(L:og B P u v ul vl u0 u1 u2 v1 v2):v<P*(v2+B*v1+1):=by have h1:=L.hv;have h2:=L.vlP;rw[aQp P _ 1,aQS];omega
def og.u0v(L:og B P u v ul vl u0 u1 u2 v1 v2):u0<=v1:=by
 have h1:u<B*(P*(v2+B*v1+1)):=aNb L.lt (aQP _ (Nat.le_of_lt L.vW));have h2:P*(u2+B*(u0*B+u1))<=u:=by have:=L.hu;omega
 have h3:P*(B*(u0*B))<P*(B*(v2+B*v1+1)):=by
  have:P*(B*(u0*B))<=P*(u2+B*(u0*B+u1)):=aQP _ (by rw[aQp];omega)
  have e:B*(P*(v2+B*v1+1))=P*(B*(v2+B*v1+1)):=by ac_rfl
  omega
 have h4:=me (me h3);have h5:v2+B*v1+1<=B*(v1+1):=by have:=L.v2B;rw[aQp];omega
 have h6:B*u0<B*(v1+1):=by rw[aR0 B u0];omega
 have:=me h6
 omega
def og.first(L:og B P u v ul vl u0 u1 u2 v1 v2):u/v<=(u0*B+u1)/v1:=by
 rw[Nat.le_div_iff_mul_le L.v1p];have h1:u/v*v<=u:=aSp u v;generalize u/v=q at h1;have h2:P*(B*(q*v1))<=q*v:=by
  have e:P*(B*(q*v1))=q*(P*(B*v1)):=by ac_rfl
  rw[e];refine aQP _ ?_
  have:=L.hv
  rw[aQp]at this;omega
 have h3:=L.uX;have h4:P*(B*(q*v1))<P*(B*(u0*B+u1+1)):=by
  refine aR1 h2 (aR1 h1 (aNb h3 (aQP _ ?_)))
  have:=L.u2B
  rw[aQp B _ 1];omega
 have:=me (me h4)
 omega
def og.ltB(L:og B P u v ul vl u0 u1 u2 v1 v2):u/v<B:=aSn (by rw[aR0];exact L.lt)
def og.step(L:og B P u v ul vl u0 u1 u2 v1 v2){q rest:Nat}(hq:q*v1+rest=u0*B+u1)(hle:u/v<=q)(hc:q*v2>rest*B+u2):u/v<=q-1:=by
 by_cases he:u/v=q
 ·exfalso;have h1:u/v*v<=u:=aSp u v;rw[he]at h1;have h2:P*(q*(v2+B*v1))<P*(u2+B*(u0*B+u1)+1):=by
   refine aR1 ?_ L.uX;refine Nat.le_trans ?_ h1;have e:P*(q*(v2+B*v1))=q*(P*(v2+B*v1)):=by ac_rfl
   rw[e];exact aQP _ (by have:=L.hv;omega)
  have h3:=me h2;rw[<-hq]at h3;have e1:q*(v2+B*v1)=q*v2+B*(q*v1):=by rw[aQp];congr 1;ac_rfl
  have e2:B*(q*v1+rest)=B*(q*v1)+rest*B:=by rw[aQp];congr 1;ac_rfl
  omega
 ·omega
def og.last(L:og B P u v ul vl u0 u1 u2 v1 v2){q rest:Nat}(hq:q*v1+rest=u0*B+u1)(hc:rest≥B∨(q<B/\q*v2<=rest*B+u2)):q<B/\q*v<=u+v:=by
 have hqB:q<B:=by
  rcases hc with h|h
  ·have h1:=L.u0v;have h2:u0*B<=v1*B:=aLa _ h1;have h3:v1*q<v1*B:=by have:=L.u1B;rw[aR0 v1 q];omega
   exact me h3
  ·exact h.1
 refine⟨hqB,?_⟩;have h1:q*v<=q*(P*(v2+B*v1+1)):=aQP _ (Nat.le_of_lt L.vW);have e1:q*(P*(v2+B*v1+1))=P*(q*v2+B*(q*v1)+q):=by
  rw[show q*(P*(v2+B*v1+1))=P*(q*(v2+B*v1+1))by ac_rfl,aQp q,aQp q,aQS];congr 3;ac_rfl
 have hu:=L.hu;rcases hc with h|h
 ·have h2:q*v2+B*(q*v1)+q<=u2+B*(u0*B+u1):=by
   have h3:q*v2<=q*(B-1):=aQP _ (by have:=L.v2B;omega);have h4:q*(B-1)+q=q*B:=by rw[<-Nat.mul_succ];congr 1;omega
   have h5:B*(q*v1)+B*rest=B*(u0*B+u1):=by rw[<-aQp,hq]
   have h6:q*B<=B*rest:=by rw[aR0];exact aQP _ (by omega)
   omega
  have h3:=aQP P h2;omega
 ·have h5:B*(q*v1)+rest*B=B*(u0*B+u1):=by rw[<-hq,aQp,aR0 rest B]
  have h2:q*v2+B*(q*v1)+q<=u2+B*(u0*B+u1)+B:=by omega
  have h3:=aQP P h2;rw[aQp P _ B]at h3;have h4:=L.vp;omega
def RH{P X Y:Int}{k:Int}(hX0:0<=X)(hX:X<P)(hY0:0<=Y)(hY:Y<P)(h:X+P*k=Y):k=0:=by
 have hP:0<P:=by omega
 rcases Int.lt_trichotomy k 0 with hk|hk|hk
 ·have:P*k<=P*(-1):=aR4 (by omega) (by omega)
  omega
 ·exact hk
 ·have:P*1<=P*k:=aR4 (by omega) (by omega)
  omega
def abi{X W v u q P c:Nat}{t:Int}(hX:X<P)(hv:v<P)(hW:W<P)(ht:t<0)(hc:c<=1)(hq:0<q)(C1:(W:Int)+(q:Int)*(v:Int)+(P:Int)*t=(u:Int))(Uk:X+P*c=W+v)(hle:q*v<=u+v):
  t= -1/\c=1/\X+(q-1)*v=u/\X<v:=by
 have h1:(X:Int)+(P:Int)*(c:Int)=(W:Int)+(v:Int):=by rw[<-aRy];omega
 have h2:(q:Int)*(v:Int)=((q*v:Nat):Int):=(aRy _ _).symm;have hY:(X:Int)+(P:Int)*(t+c)=(u:Int)+(v:Int)-(q:Int)*(v:Int):=by rw[Int.mul_add];omega
 have h3:(P:Int)*t<=(P:Int)*(-1):=aR4 (by omega) (by omega);have htc:t+c=0:=RH (by omega) (Int.ofNat_lt.2 hX) (by omega) (by omega) hY;have XM:t= -1:=by omega
 have Ea:c=1:=by omega
 subst XM;subst Ea;have h4:(q-1)*v+v=q*v:=by rw[<-Nat.succ_mul];congr 1;omega
 have h5:(P:Int)*(-1+((1:Nat):Int))=0:=by rw[show(-1+((1:Nat):Int))=0 by decide,Int.mul_zero]
 rw[h5]at hY;exact⟨rfl,rfl,by omega,by omega⟩
def Z6{P X W V c w d:Nat}(hv:X+P*c=W+V):X+P*((c+(w+d))%4294967296)+P*4294967296*((c+(w+d))/4294967296)=W+P*w+(V+P*d):=by
 have e2:P*((c+(w+d))%4294967296)+P*4294967296*((c+(w+d))/4294967296)=P*c+(P*w+P*d):=by rw[aQG,<-aQp,aSg,aQp,aQp]
 omega
def Lq{P X U V c b q d w r b':Nat}(hv:X+q*V=U+P*(c+b))(h:w+4294967296*b'=r+b+(c+q*d)%4294967296):X+P*r+q*(V+P*d)=U+P*w+P*4294967296*((c+q*d)/4294967296+b'):=by
 have e1:q*(V+P*d)=q*V+P*(q*d):=by rw[aQp];congr 1;ac_rfl
 have e2:c+q*d=(c+q*d)%4294967296+4294967296*((c+q*d)/4294967296):=(aSg _ _).symm;generalize hm:(c+q*d)%4294967296=m at*;generalize hk:(c+q*d)/4294967296=k at*;have e3:P*(c+q*d)=P*(m+4294967296*k):=by rw[<-e2]
 have e4:P*(w+4294967296*b')=P*(r+b+m):=by rw[h]
 have e5:P*4294967296*(k+b')=P*(4294967296*k)+P*(4294967296*b'):=by rw[aQG,<-aQp,<-aQp]
 rw[aQp]at e3 e4 hv;rw[aQp]at e3 e4;rw[aQp]at e4;omega
def aeN{P X U v c b q u0 t:Nat}(hv:X+q*v=U+P*(c+b))(ht:u0=t+b+c):X+P*t+q*v=U+P*u0:=by subst ht;rw[aQp,aQp];rw[aQp]at hv;omega
def ama{P X U v k q:Nat}(hX:X<P)(hk:0<k)(hv:X+q*v=U+P*k):0<q:=by
 refine aSr fun e=>?_
 subst e
 have:P*1<=P*k:=aQP _ hk
 omega
def Z8{P X U v c b q u0:Nat}{t:Int}(hv:X+q*v=U+P*(c+b))(ht:t=(u0:Int)-b-c):(X:Int)+(q:Int)*(v:Int)+(P:Int)*t=((U+P*u0:Nat):Int):=by
 subst ht;have h1:((X+q*v:Nat):Int)=((U+P*(c+b):Nat):Int):=by rw[hv]
 simp only[aRz,aRy]at h1⊢;rw[Int.mul_sub,Int.mul_sub];rw[Int.mul_add]at h1;omega
end Dv.dR
namespace Go.Proofs.YtmkjgfnicfpjpaaGreatDoor
open Go Dv Dv.dR
variable{E:Env}[C:Ctx E]
def oV(U:List Nat)(off k:Nat):Nat:=val ((U.drop off).take k)
def kE{U:List Nat}{off k:Nat}(h:off+k<U.length:=by omega):oV U off (k+1)=oV U off k+4294967296^k*U.getD (off+k) 0:=by unfold oV;rw[cu (by rw[aOu];omega)];congr 2;rw[aQE,aKJ,aQE]
def Dn{U:List Nat}{off k j d:Nat}(h:off+k<=j):oV (U.set j d) off k=oV U off k:=by unfold oV;rw[List.drop_set,if_neg (by omega),aSo (by omega)]
def jU{U:List Nat}{off k d:Nat}(h:off+k<U.length):oV (U.set (off+k) d) off (k+1)=oV U off k+4294967296^k*d:=by rw[kE (by simpa using h),Dn (aKE _),aQE,aNv h];rfl
def Hr{U:List Nat}(h:∀d∈U,d<4294967296){off k:Nat}:oV U off k<4294967296^k:=by
 unfold oV;refine aNb (oK fun d hd=>h d (List.mem_of_mem_drop (aQN hd))) ?_;exact aR3 (by omega) (by rw[aOw];omega)
def qc{l:List Nat}:val (l.take l.length)=val l:=by rw[aOz]
def od{z:Int}:aW .u32 z=z%4294967296:=by
 show IntKind.u32.wrap _=_
 rw[IntKind.wrap_u32]
def oa{U:List Nat}{j k d:Nat}(h:j≠k:=by omega):(U.set j d).getD k 0=U.getD k 0:=by rw[aQE,aNt h,aQE]
def ZZ{U:List Nat}{j d:Nat}(h:j<U.length):(U.set j d).getD j 0=d:=by rw[aQE,aNv h];rfl
def adM{U Vl:List Nat}{off n:Nat}(hn:Vl.length=n+2)(hU:off+(n+2)<U.length)(MM:∀d∈U,d<4294967296)(hVd:∀d∈Vl,d<4294967296)(XO:0<Vl.getD (n+1) 0)(ek:oV U off (n+3)<4294967296*val Vl):
  og 4294967296 (4294967296^n) (oV U off (n+3)) (val Vl) (oV U off n) (val (Vl.take n)) (U.getD (off+(n+2)) 0) (U.getD (off+(n+1)) 0) (U.getD (off+n) 0) (Vl.getD (n+1) 0) (Vl.getD n 0):=by
 refine⟨?_,?_,Hr MM,?_,fw MM,fw MM,fw hVd,XO,ek⟩
 ·rw[kE,kE,kE];simp only[aQF];generalize 4294967296^n=P;rw[aQp,aQp,aQp];have e1:P*(4294967296*(U.getD (off+(n+2)) 0*4294967296))=P*4294967296*4294967296*U.getD (off+(n+2)) 0:=by ac_rfl
  have e2:P*(4294967296*U.getD (off+(n+1)) 0)=P*4294967296*U.getD (off+(n+1)) 0:=by ac_rfl
  omega
 ·have h1:=qc (l:=Vl);rw[hn,cu,cu]at h1;simp only[aQF]at h1;rw[<-h1];generalize 4294967296^n=P;rw[aQp];have e2:P*(4294967296*Vl.getD (n+1) 0)=P*4294967296*Vl.getD (n+1) 0:=by ac_rfl
  omega
 ·have:=oK (l:=Vl.take n) fun d hd=>hVd d (aQN hd)
  rwa[aOw,aSi (by omega)]at this
def Ei:Nat->Code->Code
 |0,c=>c
 |n+1,.seq _ b=>Ei n b
 |_+1,c=>c
def FC:Code->Code
 |.seq a _=>a
 |c=>c
def Wj:Code:=Ei 5 sX
def Wh:Code:=Ei 10 sX
def ab5:sX=.seq (FC sX) (.seq (FC (Ei 1 sX)) (.seq (FC (Ei 2 sX)) (.seq (FC (Ei 3 sX)) (.seq (FC (Ei 4 sX)) Wj)))):=by kernel_rfl
def Wk:Wj=.seq (FC (Ei 5 sX)) (.seq (FC (Ei 6 sX)) (.seq (FC (Ei 7 sX)) (.seq (FC (Ei 8 sX)) (.seq (FC (Ei 9 sX)) Wh)))):=by kernel_rfl
def aa5(U Vl:List Nat)(off n:Nat)(H1:Hp)(r:AV)(H':Hp):Prop:=∃q U',r=.int .u32 (q:Nat)/\H'=.cells .live (cA U')::H1/\q<4294967296/\U'.length=U.length/\(∀d∈U',d<4294967296)/\(∀j,(j<off∨off+(n+3)<=j)->U'.getD j 0=U.getD j 0)/\oV U' off (n+3)+q*val Vl=oV U off (n+3)/\oV U' off (n+3)<val Vl
def Wi{vv:AV}{U Vl W:List Nat}{off n kc q:Nat}{H1:Hp}{t:Int}(hV:eC vv Vl)(hn:Vl.length=n+2)(Qi:n<10000000000)(hU:off+(n+3)<=U.length)(hUl:U.length<20000000000)
  (hW:W.length=U.length) (hWd:∀d∈W,d<4294967296) (hWo:∀j,(j<off∨off+(n+3)<=j)->W.getD j 0=U.getD j 0) (ht:t<0) (ht0: -4294967296<=t) (hWn:(W.getD (off+(n+2)) 0:Int)=t%4294967296) (hq0:0<q) (hq:q<4294967296)
  (C1:(oV W off (n+2):Int)+(q:Int)*(val Vl:Int)+((4294967296^(n+2):Nat):Int)*t=(oV U off (n+3):Int)) (hle:q*val Vl<=oV U off (n+3)+val Vl)
  {ts:List AV} (hl:ts.length=173) (g0:gt ts 0=.aI 0 off (n+3) 1 kc) (g1:gt ts 1=vv) (g5:gt ts 5=.int .i64 ((n+2:Nat):Int)) (g7:gt ts 7=.int .u64 (q:Nat)):
  V E Wh ts (.cells .live (cA W)::H1) (pO E [.tmp 4] (aa5 U Vl off n H1)):=by
 have T:=gW C.toOver;unfold Wh;refine VS ?_
 dsimp only[Ei,FC,sX,Tryz.f190]
 simp only[↓aL,jg,aJ,aa,ae,gX,hl,g1,lF hV];refine cE (fun k_ ts H=>∃i X c,k_=(n+2)-i/\ts.length=173/\gt ts 0=.aI 0 off (n+3) 1 kc/\gt ts 1=vv/\gt ts 5=.int .i64 ((n+2:Nat):Int)/\gt ts 7=.int .u64 (q:Nat)/\gt ts 9=.int .u64 (c:Nat)/\gt ts 137=vv/\gt ts 138=.int .i64 ((n+2:Nat):Int)/\gt ts 139=.int .i64 (i:Nat)/\H=.cells .live (cA X)::H1/\(i<=n+2)/\(X.length=U.length)/\(∀d∈X,d<4294967296)/\(∀j,(j<off∨off+i<=j)->X.getD j 0=W.getD j 0)/\(c<=1)/\(oV X off i+4294967296^i*c=oV W off i+val (Vl.take i))) (n+2) ?_ ?_
 rotate_left
 ·refine⟨0,W,0,(by first|omega|rfl|simp),(by simp[bc,hl]),?_⟩;simp only[aZ,hl,aa,ae,g0,g1,g5,g7,hn]
  iterate 9 refine cG ?_
  refine⟨?_,?_,?_,?_,?_,?_⟩
  ·first|omega|trivial
  ·first|exact hW|trivial
  ·first|exact hWd|trivial
  ·first|(intro j _;first|trivial|rfl)|trivial
  ·first|omega|trivial
  ·first|simp[oV,val]|trivial
 clear hl g0 g1 g5 g7 ts;rintro k_ ts H ⟨i,X,c,rfl,hl,g0,g1,g5,g7,g9,ar9,ajM,asa,rfl,hi,hX,Sc,Xb,hc,hv⟩;refine VS ?_;by_cases Ir:i<n+2
 ·have oT:decide ((i:Int)<((n+2:Nat):Int))=true:=bh;have ixv:=ji T hV (k:=.i64) (z:=(i:Int));rw[aQD]at ixv;have ldv:=fK (out:=Vl) (j:=i);have aj9:=fw hV.1 (i:=i);have hvt:=cu (l:=Vl) (i:=i);generalize hd:Vl.getD i 0=d at ldv aj9 hvt;have c1:((i:Int)<((n+3:Nat):Int))=True:=eq_true (by omega);have ik:off+i<X.length:=by omega
  have Kv:=fK ik;rw[Xb _ (.inr (aKE _))]at Kv;have XP:=fw hWd (i:=off+i);have hms:=kE (U:=W) (off:=off) (k:=i);generalize hw:W.getD (off+i) 0=w at Kv XP hms;have w1:aW .u64 (d:Int)=d:=wrap_u64;have w2:aW .u64 (w:Int)=w:=wrap_u64;have w3:aW .u64 ((w:Int)+(d:Int))=((w+d:Nat):Int):=by rw[<-aRz];exact wrap_u64
  have w4:aW .u64 ((c:Int)+((w+d:Nat):Int))=((c+(w+d):Nat):Int):=by rw[<-aRz];exact wrap_u64
  have w5:aW .i64 ((i:Int)+1)=((i+1:Nat):Int):=by rw[wrap_i64];simp
  have dp:=fun z H=>qb (H:=H) (z:=z) ik
  simp only[↓aL,jg,aJ,↓reduceIte,aa,ae,gI,cp,↓eh fX gU,↓eh gU fX,hl,g0,g9,ar9,ajM,asa,oT,ixv,ldv,Kv,c1,w1,w2,w3,w4,w5,dp,ef,eK,jI,wrap_u32,AV.cells];refine bK ?_;refine⟨_,?_,i+1,X.set (off+i) ((c+(w+d))%4294967296),(c+(w+d))/4294967296,rfl,(by simp[bc,hl]),?_⟩
  ·first|omega|(simp;omega)
  simp only[aZ,hl,aa,ae,g0,g1,g5,g7,ar9,ajM]
  iterate 9 refine cG ?_
  refine⟨?_,?_,?_,?_,?_,?_⟩
  ·omega
  ·simpa using hX
  ·exact cZ Sc (aR2 _ (by decide))
  ·intro j hj;rw[oa];exact Xb j (by omega)
  ·omega
  ·rw[jU ik,hms,hvt,aQF];exact Z6 hv
 ·have oT:decide ((i:Int)<((n+2:Nat):Int))=false:=bj;obtain rfl:i=n+2:=by omega
  have c1:(((n+2:Nat):Int)<((n+3:Nat):Int))=True:=eq_true (by omega);have ik:off+(n+2)<X.length:=by omega
  have Kv:=fK ik;rw[Xb _ (.inr (aKE _))]at Kv;have hvV:val (Vl.take (n+2))=val Vl:=by rw[<-hn,aOz]
  rw[hvV]at hv;have hVB:val Vl<4294967296^(n+2):=by have:=oK hV.1;rwa[hn]at this
  have ay3:=Hr Sc (off:=off) (k:=n+2);have ay0:=Hr hWd (off:=off) (k:=n+2);obtain⟨rfl,rfl,asW,asX⟩:=abi ay3 hVB ay0 ht hc hq0 C1 hv hle;have ay1:W.getD (off+(n+2)) 0=4294967295:=by
   have:(-1:Int)%4294967296=4294967295:=by decide
   omega
  rw[ay1]at Kv;have w1:aW .u32 1=1:=by rw[od];decide
  have w2:aW .u32 (4294967295+1)=0:=by rw[od];decide
  have w3:aW .u64 ((q:Int)-1)=((q-1:Nat):Int):=by rw[show(q:Int)-1=((q-1:Nat):Int)by omega];exact wrap_u64
  have dp:∀H,gT 1 [.int .u32 0] (.cells .live (cA X)::H) 0 (off+(n+2))=some (.cells .live (cA (X.set (off+(n+2)) 0))):=fun H=>qb (z:=0) ik
  simp only[↓aL,jg,aJ,↓reduceIte,aa,ae,cp,↓eh gU fX,hl,g0,g5,g7,g9,ajM,asa,oT,c1,Kv,w1,w2,w3,dp,ef,eK,wrap_u32,AV.cells];refine⟨q-1,X.set (off+(n+2)) 0,?_,rfl,by omega,by simpa using hX,cZ Sc (by decide),?_,?_,?_⟩
  ·rw[aRx (by omega)]
  ·intro j hj;rw[oa,Xb j (by omega)];exact hWo j hj
  ·rw[jU ik,aQQ,aOx];exact asW
  ·rw[jU ik,aQQ,aOx];exact asX
def qQ{n:Nat}(h:n<=9223372036854775807:=by omega):aW .i64 (n:Int)=n:=wrap_i64
def sub_neg{w b m:Nat}(hw:w<4294967296)(hb:b<=1)(hm:m<4294967296)(h:(w:Int)-(b:Int)-(m:Int)<0):aW .u32 ((w:Int)-(b:Int)-(m:Int))=((w+4294967296-b-m:Nat):Int)/\w+4294967296-b-m<4294967296/\w+4294967296*1=w+4294967296-b-m+b+m:=by
 have e:((w+4294967296-b-m:Nat):Int)=(w:Int)-(b:Int)-(m:Int)+4294967296:=by omega
 refine⟨?_,by omega,by omega⟩;rw[od,e,<-Int.add_emod_right,aSt (by omega) (by omega)]
def Lt{w b m:Nat}(hw:w<4294967296)(h:¬(w:Int)-(b:Int)-(m:Int)<0:=by omega):aW .u32 ((w:Int)-(b:Int)-(m:Int))=((w-b-m:Nat):Int)/\w-b-m<4294967296/\w+4294967296*0=w-b-m+b+m:=by
 have e:((w-b-m:Nat):Int)=(w:Int)-(b:Int)-(m:Int):=by omega
 refine⟨?_,by omega,by omega⟩;rw[od,e,aSt (by omega) (by omega)]
def ab4{vv:AV}{U Vl:List Nat}{off n kc q:Nat}{H1:Hp}(hV:eC vv Vl)(hn:Vl.length=n+2)(Qi:n<10000000000)(hU:off+(n+3)<=U.length)(hUl:U.length<20000000000)
  (MM:∀d∈U,d<4294967296) (hq:q<4294967296) (hup:oV U off (n+3)<(q+1)*val Vl) (hle:q*val Vl<=oV U off (n+3)+val Vl)
  {ts:List AV} (hl:ts.length=173) (g0:gt ts 0=.aI 0 off (n+3) 1 kc) (g1:gt ts 1=vv) (g5:gt ts 5=.int .i64 ((n+2:Nat):Int)) (g7:gt ts 7=.int .u64 (q:Nat)):
  V E Wj ts (.cells .live (cA U)::H1) (pO E [.tmp 4] (aa5 U Vl off n H1)):=by
 have T:=gW C.toOver;rw[Wk];refine VS ?_
 dsimp only[Ei,FC,sX,Tryz.f190]
 simp only[↓aL,jg,aJ,aa,ae,gX,hl,g1,lF hV];refine cE (fun k_ ts H=>∃i X c b,k_=(n+2)-i/\ts.length=173/\gt ts 0=.aI 0 off (n+3) 1 kc/\gt ts 1=vv/\gt ts 5=.int .i64 ((n+2:Nat):Int)/\gt ts 7=.int .u64 (q:Nat)/\gt ts 9=.int .u64 (c:Nat)/\gt ts 10=.int .i64 (b:Nat)/\gt ts 84=vv/\gt ts 85=.int .i64 ((n+2:Nat):Int)/\gt ts 86=.int .i64 (i:Nat)/\H=.cells .live (cA X)::H1/\(i<=n+2)/\(X.length=U.length)/\(∀d∈X,d<4294967296)/\(∀j,(j<off∨off+i<=j)->X.getD j 0=U.getD j 0)/\(c<4294967296)/\(b<=1)/\(oV X off i+q*val (Vl.take i)=oV U off i+4294967296^i*(c+b))) (n+2) ?_ ?_
 rotate_left
 ·refine⟨0,U,0,0,(by first|omega|rfl|simp),(by simp[bc,hl]),?_⟩;simp only[aZ,hl,aa,ae,g0,g1,g5,g7,hn]
  iterate 10 refine cG ?_
  refine⟨?_,?_,?_,?_,?_,?_,?_⟩
  ·first|omega|trivial
  ·first|(first|trivial|rfl)|trivial
  ·first|exact MM|trivial
  ·first|(intro j _;first|trivial|rfl)|trivial
  ·first|(first|trivial|omega)|trivial
  ·first|(first|trivial|omega)|trivial
  ·first|simp[oV,val]|trivial
 clear hl g0 g1 g5 g7 ts;rintro k_ ts H ⟨i,X,c,b,rfl,hl,g0,g1,g5,g7,g9,g10,g84,g85,g86,rfl,hi,hX,Sc,Xb,hc,hb,hv⟩;refine VS ?_;by_cases Ir:i<n+2
 ·have oT:decide ((i:Int)<((n+2:Nat):Int))=true:=bh;have ixv:=ji T hV (k:=.i64) (z:=(i:Int));rw[aQD]at ixv;have ldv:=fK (out:=Vl) (j:=i);have aj9:=fw hV.1 (i:=i);have hvt:=cu (l:=Vl) (i:=i);generalize hd:Vl.getD i 0=d at ldv aj9 hvt;have c1:((i:Int)<((n+3:Nat):Int))=True:=eq_true (by omega);have ik:off+i<X.length:=by omega
  have Kv:=fK ik;rw[Xb _ (.inr (aKE _))]at Kv;have XP:=fw MM (i:=off+i);have hms:=kE (U:=U) (off:=off) (k:=i);generalize hw:U.getD (off+i) 0=w at Kv XP hms;have hqd:q*d<=4294967295*4294967295:=aSj (by omega) (by omega);have w1:aW .u64 (d:Int)=d:=wrap_u64;have w2:aW .u64 ((q:Int)*(d:Int))=((q*d:Nat):Int):=by rw[<-aRy];exact wrap_u64
  obtain⟨s,hs⟩:∃s,s=c+q*d:=⟨_,rfl⟩;obtain⟨m,hm⟩:∃m,m=s%4294967296:=⟨_,rfl⟩;obtain⟨k',sG⟩:∃k',k'=s/4294967296:=⟨_,rfl⟩;have aky:m<4294967296:=by rw[hm];exact aR2 _ (by decide)
  have ata:k'<4294967296:=by rw[sG,hs];omega
  have w3:aW .u64 ((c:Int)+((q*d:Nat):Int))=(s:Int):=by rw[hs,<-aRz];exact wrap_u64
  have w3m:aW .u32 (s:Int)=(m:Int):=by rw[hm];exact wrap_u32
  have ado:∀{cc:Bool} {t:Nat} {kk:IntKind},cd E cc .shr t (.int .u64 (s:Int)) (.int kk 32)=some (.int .u64 (k':Int)):=by intro cc t kk;rw[sG];exact jI
  have w4:aW .i64 (w:Int)=w:=qQ;have w5:aW .i64 (m:Int)=m:=qQ;obtain⟨t1,XM⟩:∃t1:Int,t1=(w:Int)-(b:Int):=⟨_,rfl⟩;obtain⟨t2,ht2⟩:∃t2:Int,t2=t1-(m:Int):=⟨_,rfl⟩;have w6:aW .i64 ((w:Int)-(b:Int))=t1:=by rw[XM];exact wrap_i64
  have w7:aW .i64 (t1-(m:Int))=t2:=by rw[ht2];exact wrap_i64
  have w8:aW .i64 ((i:Int)+1)=((i+1:Nat):Int):=by rw[wrap_i64];simp
  have dp:=fun z H=>qb (H:=H) (z:=z) ik
  by_cases oZ:t2<0
  ·have Si:decide (t2<0)=true:=bh oZ;obtain⟨r,w9,MZ,hre⟩:∃r:Nat,aW .u32 t2=(r:Int)/\r<4294967296/\w+4294967296*1=r+b+m:=by refine⟨w+4294967296-b-m,?_⟩;rw[ht2,XM];exact sub_neg XP hb aky (by omega)
   simp only[↓aL,jg,aJ,↓reduceIte,aa,ae,gI,cp,↓eh fX gU,↓eh fX kd2,↓eh gU fX,↓eh kd2 fX,hl,g0,g7,g9,g10,g84,g85,g86,oT,ixv,ldv,Kv,c1,w1,w2,w3,w3m,ado,w4,w5,w6,w7,w8,w9,Si,dp,ef,eK,AV.cells];refine bK ?_;refine⟨_,?_,i+1,X.set (off+i) r,k',1,rfl,(by simp[bc,hl]),?_⟩
   ·first|omega|(simp;omega)
   simp only[aZ,hl,aa,ae,g0,g1,g5,g7,g84,g85]
   iterate 10 refine cG ?_
   refine⟨?_,?_,?_,?_,?_,?_,?_⟩
   ·omega
   ·simpa using hX
   ·exact cZ Sc MZ
   ·intro j hj;rw[oa];exact Xb j (by omega)
   ·exact ata
   ·omega
   ·rw[jU ik,hms,hvt,aQF,sG,hs];rw[hm,hs]at hre;exact Lq hv hre
  ·have Si:decide (t2<0)=false:=bj oZ;obtain⟨r,w9,MZ,hre⟩:∃r:Nat,aW .u32 t2=(r:Int)/\r<4294967296/\w+4294967296*0=r+b+m:=by refine⟨w-b-m,?_⟩;rw[ht2,XM];exact Lt XP
   simp only[↓aL,jg,aJ,↓reduceIte,aa,ae,gI,cp,↓eh fX gU,↓eh fX kd2,↓eh gU fX,↓eh kd2 fX,hl,g0,g7,g9,g10,g84,g85,g86,oT,ixv,ldv,Kv,c1,w1,w2,w3,w3m,ado,w4,w5,w6,w7,w8,w9,Si,dp,ef,eK,AV.cells];refine bK ?_;refine⟨_,?_,i+1,X.set (off+i) r,k',0,rfl,(by simp[bc,hl]),?_⟩
   ·first|omega|(simp;omega)
   simp only[aZ,hl,aa,ae,g0,g1,g5,g7,g84,g85]
   iterate 10 refine cG ?_
   refine⟨?_,?_,?_,?_,?_,?_,?_⟩
   ·omega
   ·simpa using hX
   ·exact cZ Sc MZ
   ·intro j hj;rw[oa];exact Xb j (by omega)
   ·exact ata
   ·omega
   ·rw[jU ik,hms,hvt,aQF,sG,hs];rw[hm,hs]at hre;exact Lq hv hre
 ·have oT:decide ((i:Int)<((n+2:Nat):Int))=false:=bj;obtain rfl:i=n+2:=by omega
  have c1:(((n+2:Nat):Int)<((n+3:Nat):Int))=True:=eq_true (by omega);have ik:off+(n+2)<X.length:=by omega
  have Kv:=fK ik;rw[Xb _ (.inr (aKE _))]at Kv;have hvV:val (Vl.take (n+2))=val Vl:=by rw[<-hn,aOz]
  rw[hvV]at hv;have hu0:=fw MM (i:=off+(n+2));have hms:=kE (U:=U) (off:=off) (k:=n+2);generalize hw:U.getD (off+(n+2)) 0=u0 at Kv hu0 hms;have w1:aW .i64 (u0:Int)=u0:=qQ;have w2:aW .i64 (c:Int)=c:=qQ;obtain⟨t1,XM⟩:∃t1:Int,t1=(u0:Int)-(b:Int):=⟨_,rfl⟩;obtain⟨t2,ht2⟩:∃t2:Int,t2=t1-(c:Int):=⟨_,rfl⟩;have w3:aW .i64 ((u0:Int)-(b:Int))=t1:=by rw[XM];exact wrap_i64
  have w4:aW .i64 (t1-(c:Int))=t2:=by rw[ht2];exact wrap_i64
  have dp:=fun z H=>qb (H:=H) (z:=z) ik
  by_cases oZ:t2<0
  ·have Si:decide (t2≥0)=false:=bj;obtain⟨r,hr,MZ⟩:∃r:Nat,(r:Int)=t2%4294967296/\r<4294967296:=⟨(t2%4294967296).toNat,by omega,by omega⟩;have w5:aW .u32 t2=(r:Int):=by rw[od,hr]
   have hq0:0<q:=ama (Hr Sc) (show 0<c+b by omega) hv;simp only[↓aL,jg,aJ,↓reduceIte,aa,ae,cp,↓eh fX kd2,↓eh gU kd2,↓eh kd2 fX,hl,g0,g5,g9,g10,g85,g86,oT,Kv,c1,w1,w2,w3,w4,w5,Si,dp,ef,eK,AV.cells];refine Wi (kc:=kc) (W:=X.set (off+(n+2)) r) (t:=t2) hV hn Qi hU hUl (by simpa using hX) (cZ Sc MZ) ?_ oZ (by omega) ?_ hq0 hq ?_ hle (by simp[bc,hl]) ?_ ?_ ?_ ?_
   ·intro j hj;rw[oa];exact Xb j (by omega)
   ·rw[ZZ ik];exact hr
   ·rw[Dn (aKE _),hms];exact Z8 hv (by rw[ht2,XM])
   all_goals simp only[aZ,ae,g0,g1,g5,g7]
  ·have Si:decide (t2≥0)=true:=bh;obtain⟨r,w5,MZ,hre⟩:∃r:Nat,aW .u32 t2=(r:Int)/\r<4294967296/\u0+4294967296*0=r+b+c:=by refine⟨u0-b-c,?_⟩;rw[ht2,XM];exact Lt hu0
   have wq:aW .u32 (q:Int)=(q:Int):=by rw[wrap_u32,aRx hq]
   simp only[↓aL,jg,aJ,↓reduceIte,aa,ae,cp,↓eh fX kd2,↓eh gU fX,↓eh gU kd2,↓eh kd2 fX,hl,g0,g5,g7,g9,g10,g85,g86,oT,Kv,c1,w1,w2,w3,w4,w5,wq,Si,dp,ef,eK,AV.cells];have lC:=aeN (u0:=u0) (t:=r) hv (by omega);rw[<-hms,<-jU ik]at lC;refine⟨q,X.set (off+(n+2)) r,rfl,rfl,hq,by simpa using hX,cZ Sc MZ,?_,lC,?_⟩
   ·intro j hj;rw[oa];exact Xb j (by omega)
   ·have:(q+1)*val Vl=q*val Vl+val Vl:=by rw[aK8,aSu]
    show oV _ off (n+2+1)<_
    rw[show n+3=n+2+1 from rfl]at hup hle;omega
def Ls{q v:Nat}(h:0<q:=by omega):(q-1)*v+v=q*v:=by obtain⟨k,rfl⟩:=Nat.exists_eq_succ_of_ne_zero (Nat.ne_of_gt h);rw[Nat.succ_mul];rfl
def Mr{vv:AV}{U Vl:List Nat}{off n kc:Nat}{H1:Hp}(hV:eC vv Vl)(hn:Vl.length=n+2)(Qi:n<10000000000)(hU:off+(n+3)<=U.length)(hUl:U.length<20000000000)
  (MM:∀d∈U,d<4294967296) (XO:2147483648<=Vl.getD (n+1) 0) (ek:oV U off (n+3)<4294967296*val Vl):
  ∃r H',cR E 190 [.aI 0 off (n+3) 1 kc,vv] (.cells .live (cA U)::H1)=some (r,H')/\aa5 U Vl off n H1 r H':=by
 refine gi2 (fV C) (by rw[C.fn];exact arn) (by decide) ?_;intro ts hl g0 g1;have T:=gW C.toOver;have L:=adM hn (by omega) MM hV.1 (by omega) ek;have lC:∀(q:Nat) (ts:List AV),q<4294967296->oV U off (n+3)/val Vl<=q->q*val Vl<=oV U off (n+3)+val Vl->ts.length=173->gt ts 0=.aI 0 off (n+3) 1 kc->gt ts 1=vv->gt ts 5=.int .i64 ((n+2:Nat):Int)->gt ts 7=.int .u64 (q:Nat)->
   V E Wj ts (.cells .live (cA U)::H1) (pO E [.tmp 4] (aa5 U Vl off n H1)):=by
  intro q ts hq Iq hle hl g0 g1 g5 g7;refine ab4 (kc:=kc) hV hn Qi hU hUl MM hq ?_ hle hl g0 g1 g5 g7;have h1:=Nat.lt_mul_div_succ (oV U off (n+3)) L.v0;refine aNb h1 ?_;rw[aR0];exact aLa _ (by omega)
 rw[ab5];generalize Wj=D5 at lC
 dsimp only[Ei,FC,sX,Tryz.f190]
 have adE:=ji T hV (k:=.i64) (z:=((n+1:Nat):Int));have akV:=ji T hV (k:=.i64) (z:=((n:Nat):Int));rw[aQD]at adE akV;have alh:=fK (out:=Vl) (j:=n+1);have auv:=fK (out:=Vl) (j:=n);have aAM:=fK (out:=U) (j:=off+(n+2));have aAN:=fK (out:=U) (j:=off+(n+1));have auu:=fK (out:=U) (j:=off+n);have bv1:=fw hV.1 (i:=n+1);have bv2:=fw hV.1 (i:=n);have bu0:=fw MM (i:=off+(n+2));have bu1:=fw MM (i:=off+(n+1));have bu2:=fw MM (i:=off+n);generalize Vl.getD (n+1) 0=v1 at*;generalize Vl.getD n 0=v2 at*;generalize U.getD (off+(n+2)) 0=u0 at*;generalize U.getD (off+(n+1)) 0=u1 at*;generalize U.getD (off+n) 0=u2 at*;have c2:(((n+2:Nat):Int)<((n+3:Nat):Int))=True:=eq_true (by omega);have c1:(((n+1:Nat):Int)<((n+3:Nat):Int))=True:=eq_true (by omega);have c0:(((n:Nat):Int)<((n+3:Nat):Int))=True:=eq_true (by omega);have w1:aW .i64 (((n+2:Nat):Int)-1)=((n+1:Nat):Int):=by rw[wrap_i64];omega
 have w2:aW .i64 (((n+2:Nat):Int)-2)=((n:Nat):Int):=by rw[wrap_i64];omega
 have wv1:aW .u64 (v1:Int)=v1:=wrap_u64;have wv2:aW .u64 (v2:Int)=v2:=wrap_u64;have wu0:aW .u64 (u0:Int)=u0:=wrap_u64;have wu1:aW .u64 (u1:Int)=u1:=wrap_u64;have wu2:aW .u64 (u2:Int)=u2:=wrap_u64;have azL:∀{cc:Bool} {t:Nat},cd E cc .or t (.int .u64 ((u0*4294967296:Nat):Int)) (.int .u64 (u1:Int))=some (.int .u64 ((u0*4294967296+u1:Nat):Int)):=by intro cc t;rw[xQ,Og bu1]
 have hv0:v1≠0:=by omega
 have hdl:(u0*4294967296+u1)/v1<=u0*4294967296+u1:=aSh _ _;have wq:aW .u64 (((u0*4294967296+u1)/v1:Nat):Int)=(((u0*4294967296+u1)/v1:Nat):Int):=wrap_u64;have aki:=L.first;have Xi:=Nat.div_add_mod (u0*4294967296+u1) v1;have Js:=aR2 (u0*4294967296+u1) (show 0<v1 by omega);simp only[↓aL,jg,aJ,↓reduceIte,aa,ah,ae,gI,gX,↓Cx fX gU,xd fX gU,hl,g0,g1,lF hV,hn,adE,alh,aAM,aAN,c1,c2,w1,wv1,wu0,wu1,sV bu0,azL,GC hv0,mw hv0,wq,ef];refine cE (fun k_ ts H=>∃q rest,k_=8589934592-rest/\ts.length=173/\gt ts 0=.aI 0 off (n+3) 1 kc/\gt ts 1=vv/\gt ts 5=.int .i64 ((n+2:Nat):Int)/\gt ts 7=.int .u64 (q:Nat)/\gt ts 8=.int .u64 (rest:Nat)/\H=.cells .live (cA U)::H1/\(q*v1+rest=u0*4294967296+u1)/\(oV U off (n+3)/val Vl<=q)) (8589934592-(u0*4294967296+u1)%v1) ?_ ?_
 rotate_left
 ·refine⟨(u0*4294967296+u1)/v1,(u0*4294967296+u1)%v1,(by first|omega|rfl|simp),(by simp[bc,hl]),?_⟩;simp only[aZ,hl,aa,ae,g0,g1]
  iterate 6 refine cG ?_
  refine⟨?_,?_⟩
  ·first|(rw[aR0];exact Xi)|trivial
  ·first|exact aki|trivial
 clear hl g0 g1 ts;rintro k_ ts H ⟨q,rest,rfl,hl,g0,g1,g5,g7,g8,rfl,hq,Iq⟩;refine VS ?_;have aG0:q<=u0*4294967296+u1:=by
  have:q*1<=q*v1:=aQP _ (by omega)
  omega
 by_cases hr:rest<4294967296
 ·have dr:decide ((rest:Int)<4294967296)=true:=bh;have wr:aW .u64 ((rest:Int)+(v1:Int))=((rest+v1:Nat):Int):=by rw[<-aRz];exact wrap_u64
  by_cases hqB:4294967296<=q
  ·have dq:decide ((q:Int)≥4294967296)=true:=bh;have wq1:aW .u64 ((q:Int)-1)=((q-1:Nat):Int):=by rw[show(q:Int)-1=((q-1:Nat):Int)by omega];exact wrap_u64
   simp(maxSteps:=2000000)only[↓aL,jg,aJ,aa,ah,ae,gI,↓eh fX gU,xd fX gU,hl,g1,g5,g7,g8,dr,dq,w1,wv1,wr,wq1,adE,alh]
   refine bK ?_;refine⟨_,?_,q-1,rest+v1,rfl,(by simp[bc,hl]),?_⟩
   ·first|omega|(simp;omega)
   simp only[aZ,hl,aa,ae,g0,g1,g5]
   iterate 6 refine cG ?_
   refine⟨?_,?_⟩
   ·have:(q-1)*v1+v1=q*v1:=Ls
    omega
   ·have:=L.ltB
    omega
  ·have dq:decide ((q:Int)≥4294967296)=false:=bj;have hqv:q*v2<=4294967295*4294967295:=aSj (by omega) (by omega);have wm:aW .u64 ((q:Int)*(v2:Int))=((q*v2:Nat):Int):=by rw[<-aRy];exact wrap_u64
   have att:∀{cc:Bool} {t:Nat},cd E cc .or t (.int .u64 ((rest*4294967296:Nat):Int)) (.int .u64 (u2:Int))=some (.int .u64 ((rest*4294967296+u2:Nat):Int)):=by intro cc t;rw[xQ,Og bu2]
   by_cases hc:q*v2>rest*4294967296+u2
   ·have dc:decide (((q*v2:Nat):Int)>((rest*4294967296+u2:Nat):Int))=true:=bh;have hq0:0<q:=aSr fun e=>by subst e;omega
    have wq1:aW .u64 ((q:Int)-1)=((q-1:Nat):Int):=by rw[show(q:Int)-1=((q-1:Nat):Int)by omega];exact wrap_u64
    simp(maxSteps:=2000000)only[↓aL,jg,aJ,↓reduceIte,aa,ah,ae,gI,↓Cx fX gU,↓eh fX gU,xd fX gU,hl,g0,g1,g5,g7,g8,dr,dq,dc,w1,w2,wv1,wv2,wu2,wm,wr,wq1,sV hr,att,adE,akV,alh,auv,auu,c0,ef]
    refine bK ?_;refine⟨_,?_,q-1,rest+v1,rfl,(by simp[bc,hl]),?_⟩
    ·first|omega|(simp;omega)
    simp only[aZ,hl,aa,ae,g0,g1,g5]
    iterate 6 refine cG ?_
    refine⟨?_,?_⟩
    ·have:(q-1)*v1+v1=q*v1:=Ls
     omega
    ·exact L.step hq Iq hc
   ·have dc:decide (((q*v2:Nat):Int)>((rest*4294967296+u2:Nat):Int))=false:=bj;obtain⟨l1,l2⟩:=L.last hq (.inr ⟨by omega,by omega⟩)
    simp(maxSteps:=2000000)only[↓aL,jg,aJ,↓reduceIte,aa,ah,ae,gI,↓Cx fX gU,xd fX gU,hl,g0,g1,g5,g7,g8,dr,dq,dc,w2,wv2,wu2,wm,sV hr,att,akV,auv,auu,c0,ef]
    refine lC q _ l1 Iq l2 (by simp[bc,hl]) ?_ ?_ ?_ ?_
    all_goals simp only[aZ,ae,g0,g1,g5,g7]
 ·have dr:decide ((rest:Int)<4294967296)=false:=bj;obtain⟨l1,l2⟩:=L.last hq (.inl (by omega))
  simp(maxSteps:=2000000)only[↓aL,jg,aJ,↓reduceIte,aa,ah,ae,xd fX gU,hl,g8,dr]
  refine lC q _ l1 Iq l2 (by simp[bc,hl]) ?_ ?_ ?_ ?_
  all_goals simp only[aZ,ae,g0,g1,g5,g7]
def vj{l:List Nat}{off m:Nat}(h:off+m<=l.length:=by omega):val l=val (l.take off)+4294967296^off*(oV l off m+4294967296^m*val (l.drop (off+m))):=by
 have e1:l=l.take off++l.drop off:=(aOC off l).symm;have e2:l.drop off=(l.drop off).take m++(l.drop off).drop m:=(aOC m _).symm;have h1:(l.take off).length=off:=by rw[aOw];omega
 have h2:((l.drop off).take m).length=m:=by rw[aOw,aOu];omega
 conv=>lhs;rw[e1]
 rw[mj,h1]
 conv=>lhs;rw[e2]
 rw[mj,h2,List.drop_drop];rfl
def vT{a b:List Nat}(hl:a.length=b.length)(h:∀j,j<a.length->a.getD j 0=b.getD j 0):a=b:=by
 refine List.ext_getElem hl fun j h1 h2=>?_
 have:=h j h1
 rw[aQE,aQE,aLh h1,aLh h2]at this;exact this
def getD_take{l:List Nat}{n j:Nat}(h:j<n:=by omega):(l.take n).getD j 0=l.getD j 0:=by rw[aQE,List.getElem?_take_of_lt h,aQE]
def getD_drop{l:List Nat}{n j:Nat}:(l.drop n).getD j 0=l.getD (n+j) 0:=by rw[aQE,aKJ,aQE]
def OY{W W':List Nat}{off m:Nat}(h:off+m<=W.length)(hl:W'.length=W.length)(ho:∀j,(j<off∨off+m<=j)->W'.getD j 0=W.getD j 0):
  val W'+4294967296^off*oV W off m=val W+4294967296^off*oV W' off m:=by
 rw[vj h,vj (l:=W') (off:=off) (m:=m)];have e1:W'.take off=W.take off:=by
  refine vT (by rw[aOw,aOw,hl]) fun j hj=>?_
  rw[aOw]at hj;rw[getD_take,getD_take,ho j (by omega)]
 have e2:W'.drop (off+m)=W.drop (off+m):=by
  refine vT (by rw[aOu,aOu,hl]) fun j hj=>?_
  rw[getD_drop,getD_drop,ho _ (by omega)]
 rw[e1,e2,aQp,aQp];omega
def Y0{U:List Nat}{off m:Nat}(h:off<U.length):oV U off (m+1)=U.getD off 0+4294967296*oV U (off+1) m:=by unfold oV;rw[aQI h,List.take_succ_cons];simp[val,aQE,h]
def yP:∀{l:List Nat},(∀j,l.getD j 0=0)->val l=0
 |[],_=>rfl
 |d::l,h=>by
  have h0:=h 0;simp only[List.getD_cons_zero]at h0
  have:=yP (l:=l) fun j=>by have:=h (j+1);simpa using this
  simp[val,h0,this]
def ae5{W:List Nat}{m:Nat}(hm:m<=W.length)(h:∀j,m<=j->W.getD j 0=0):val W=oV W 0 m:=by have h1:=vj (l:=W) (off:=0) (m:=m);rw[yP (l:=W.drop (0+m)) fun j=>by rw[getD_drop];exact h _ (by omega)]at h1;rw[h1];simp[val]
def N9{U:List Nat}{off m K:Nat}(h:off+m=U.length)(hK:val U<4294967296^off*K):oV U off m<K:=by have h1:=vj (l:=U) (off:=off) (m:=m);rw[h,List.drop_length]at h1;simp only[val,aQQ,aOx]at h1;refine aR5 (a:=4294967296^off) ?_;generalize 4294967296^off=P at*;omega
def sW:∀{k x:Nat},0<x->x<2^k->2^(Lib.bitLenAux k x-1)<=x/\x<2^Lib.bitLenAux k x/\0<Lib.bitLenAux k x/\Lib.bitLenAux k x<=k
 |0,x,h0,h=>by simp at h;omega
 |k+1,x,h0,h=>by
  rw[Lib.bitLenAux,if_neg (by omega)];by_cases hx:x/2=0
  ·have:x=1:=by omega
   subst this;rw[hx]
   have:Lib.bitLenAux k 0=0:=by cases k<;>simp[Lib.bitLenAux]
   rw[this]
   simp
  ·obtain⟨h1,h2,h3,h4⟩:=sW (k:=k) (x:=x/2) (by omega) (by rw[aQF]at h;omega);have e1:2^(1+Lib.bitLenAux k (x/2)-1)=2^(Lib.bitLenAux k (x/2)-1)*2:=by rw[<-aQF];congr 1;omega
   have e2:2^(1+Lib.bitLenAux k (x/2))=2^(Lib.bitLenAux k (x/2))*2:=by rw[<-aQF];congr 1;omega
   rw[e1,e2];omega
def OJ{x:Nat}(h0:0<x)(h:x<4294967296):∃n:Nat,n<32/\(32-(Lib.bitLen x:Int))=(n:Int)/\2147483648<=x*2^n/\(x+1)*2^n<=4294967296:=by
 obtain⟨h1,h2,h3,_⟩:=sW (k:=64) h0 (by omega);have h4:Lib.bitLenAux 64 x<=32:=by
  refine aSf fun ek=>?_
  have:2^32<=2^(Lib.bitLenAux 64 x-1):=aR3 (by omega) (by omega)
  omega
 refine⟨32-Lib.bitLenAux 64 x,by omega,by unfold Lib.bitLen;omega,?_,?_⟩
 ·have:=aLa (2^(32-Lib.bitLenAux 64 x)) h1
  rw[<-aR8,show Lib.bitLenAux 64 x-1+(32-Lib.bitLenAux 64 x)=31 by omega]at this;exact this
 ·have:=aLa (2^(32-Lib.bitLenAux 64 x)) (show x+1<=2^Lib.bitLenAux 64 x by omega)
  rw[<-aR8,show Lib.bitLenAux 64 x+(32-Lib.bitLenAux 64 x)=32 by omega]at this;exact this
def Ti{n:Nat}:0<4294967296^n:=Nat.pow_pos (by decide)
def Y8{b V:List Nat}{m n:Nat}(hb:∀d∈b,d<4294967296)(hl:b.length=m+1)(hV:∀d∈V,d<4294967296)(hn:Norm V)(h1:2147483648<=b.getD m 0*2^n)(h2:(b.getD m 0+1)*2^n<=4294967296)(hv:val V=val b*2^n):
  V.length=m+1/\2147483648<=V.getD m 0:=by
 have eb:=qc (l:=b);rw[hl,cu]at eb;have lb:val (b.take m)<4294967296^m:=by
  have:=oK (l:=b.take m) fun d hd=>hb d (aQN hd)
  rwa[aOw,aSi (by omega)]at this
 have hP:=Ti (n:=m);have ik:4294967296^m*2147483648<=val V:=by
  rw[hv,<-eb];generalize 4294967296^m=P at*
  have:P*2147483648<=P*(b.getD m 0*2^n):=aQP _ h1
  rw[aK8,aQG];omega
 have EG:val V<4294967296^m*4294967296:=by
  rw[hv,<-eb];generalize 4294967296^m=P at*;have h3:(val (b.take m)+P*b.getD m 0)*2^n<P*(b.getD m 0+1)*2^n:=by refine aSd ?_ (aRZ n);rw[aQp,aQS];omega
  have h4:P*(b.getD m 0+1)*2^n<=P*4294967296:=by rw[aQG];exact aQP _ h2
  omega
 have hVl:=oK hV;have eQ:V≠[]:=by
  intro e;subst e
  simp only[val]at ik
  have:0<4294967296^m*2147483648:=Nat.mul_pos hP (by decide)
  omega
 have hVg:=An hn eQ;have len:V.length=m+1:=by
  have a1:m<V.length:=by refine(aR6 (a:=4294967296) (by omega)).1 ?_;generalize 4294967296^m=P at*;generalize 4294967296^V.length=Q at*;omega
  have a2:V.length-1<m+1:=by refine(aR6 (a:=4294967296) (by omega)).1 ?_;rw[aQF];generalize 4294967296^m=P at*;generalize 4294967296^(V.length-1)=Q at*;omega
  omega
 refine⟨len,?_⟩;have eV:=qc (l:=V);rw[len,cu]at eV;have lV:val (V.take m)<4294967296^m:=by
  have:=oK (l:=V.take m) fun d hd=>hV d (aQN hd)
  rwa[aOw,aSi (by omega)]at this
 rw[<-eV]at ik;generalize 4294967296^m=P at*;have h5:P*2147483648<P*(V.getD m 0+1):=by rw[aQp,aQS];omega
 have:=aR5 h5
 omega
def Z5{a b V:List Nat}{n:Nat}(ha:∀d∈a,d<4294967296)(hb:Norm b)(eQ:b≠[])(hle:b.length<=a.length)(hV:val V=val b*2^n):val a*2^n<4294967296^(a.length-b.length)*(4294967296*val V):=by
 have h1:=oK ha;have h2:=An hb eQ;have hl:0<b.length:=aSc.2 eQ;have e:a.length=(a.length-b.length)+1+(b.length-1):=by omega
 rw[hV];have h3:val a*2^n<4294967296^a.length*2^n:=aSd h1 (aRZ n);refine aNb h3 ?_;rw[e,aR8,aQF];rw[<-e];have e2:4294967296^(a.length-b.length)*(4294967296*(val b*2^n))=4294967296^(a.length-b.length)*4294967296*val b*2^n:=by ac_rfl
 rw[e2];exact aLa _ (aQP _ h2)
def rD{E:Env}{f:Nat}{al:List AV}{r:AV}(h:E.ov f al=some r)(hp:bF E f=false):aR E f al=some r:=by
 refine dB ⟨fun fi lQ=>?_,0,?_⟩
 ·unfold bF at hp;rw[lQ]at hp;obtain⟨code,ntmps,results,pu,du⟩:=fi;cases pu
  ·simp at hp
  ·rfl
 ·unfold call jE;rw[h]
def adP{x:Nat}(h:x<4294967296):aR E 188 [.int .u32 (x:Int)]=some (.int .i64 (32-(Lib.bitLen x:Int))):=by
 refine rD ?_ at0;rw[C.ovX _ _ (by decide)];rw[show iD Bs 188 [.int .u32 (x:Int)]=Zn [.int .u32 (x:Int)]by simp[iD,Bs]];unfold Zn;simp only;rw[if_pos ⟨by omega,by omega⟩]
 simp
def aBj{H:Hp}{m i j:Nat}(tA:i<j)(hj:j<=m):HR E H 56 (.aI 0 0 m 1 m) (some (.int .i64 (i:Int))) (some (.int .i64 (j:Int)))=some (.aI 0 i (j-i) 1 (m-i)):=by
 obtain⟨ti,e,ei,h1,h2,h3,h4,h5,_⟩:=iR (Bu (E:=E));obtain⟨cD,jA,jS,jB,jZ,dQ⟩:=ti;simp only at h2;subst h2;have hb:fN m m (some (.int .i64 (i:Int))) (some (.int .i64 (j:Int)))=some (i,j):=by simp only[fN,hiE,asNat,loE];rw[if_pos ⟨by omega,by omega⟩];simp only[aQD];rw[if_pos ⟨by omega,by omega⟩]
 simp only[HR,h1,gg,h3,hb];rw[if_neg (by omega)];by_cases hi:i=0
 ·subst hi;simp
 ·rw[if_neg hi,if_neg (by omega)];simp[]
def ab6{A B Q W p:Nat}(h:A*p=Q*(B*p)+W)(ek:W<B*p)(hp:0<p):Q=A/B/\W/p=A%B:=by
 have h1:A=Q*B+W/p:=by
  have h2:(Q*B*p+W)/p=Q*B+W/p:=by rw[aSa,aSm _ _ hp,aSa]
  rw[<-h2,aQG,<-h,aSq _ hp]
 have h3:W/p<B:=aSn (by rw[aR0];exact ek);have hB:0<B:=aR1 (Nat.zero_le _) h3;generalize W/p=R at*;subst h1;rw[aSa,aSm _ _ hB,Nat.add_mul_mod_self_right,aSe h3,aRx h3];omega
def bs1{aP:Nat}{x:Int}:bQ E aP 56 1 [(0,.int .u32 x)]=some (.aI aP 0 1 1 1,[(aP,.cells .live [.int .u32 x])]):=by obtain⟨i,e,ei,h1,h2,h3,h4,h5,h6,h7⟩:=iR (Bu (E:=E));obtain⟨cD,jA,jS,jB,jZ,dQ⟩:=i;simp only at h2;subst h2;simp[bQ,h1,h3,h7,h5,fD,gD,AV.cells]
def Tt{cs:List AV}{n:Nat}:bY (.aK cs n)=false:=rfl
def aag{cs:List AV}:ct.j7 (.cells .live cs)=.cells .ro cs:=rfl
def CQ{H:Hp}{b m:Nat}{l:List Nat}{st:oe}(h:H[b]?=some (.cells st (cA l)))(hd:st≠ .dead)(hm:l.length=m):qR false H [.aI b 0 m 1 m]=some ([.aK (cA l) m],[b]):=by subst hm;rw[xC];exact tv h hd
def aah{P M X d v:Nat}(h:M=X+P*d)(hm:M<v)(hv:v<P):d=0:=by
 refine Nat.eq_zero_of_not_pos fun hd=>?_
 have:P*1<=P*d:=aQP _ hd
 omega
def ad0{P M X d v x:Nat}(h:M=X+P*d)(hm:M<v)(hx:x<4294967296):x+4294967296*X<4294967296*v:=by
 have h1:X+1<=v:=by omega
 have h2:=aQP 4294967296 h1;omega
def Wm{U W W' Q:List Nat}{i n q v:Nat}(hW:W.length=U.length)(hU:i+(n+3)<=U.length)(Xa:W'.length=W.length)(ho:∀j,(j<i∨i+(n+3)<=j)->W'.getD j 0=W.getD j 0)(hm:oV W' i (n+3)+q*v=oV W i (n+3))(hQ:i<Q.length)
  (hv:val U=4294967296^(i+1)*(val (Q.drop (i+1))*v)+val W):val U=4294967296^i*(val ((Q.set i q).drop i)*v)+val W':=by
 have h1:=OY (W:=W) (W':=W') (off:=i) (m:=n+3) (by omega) Xa ho;have h2:val ((Q.set i q).drop i)=q+4294967296*val (Q.drop (i+1)):=by
  have:=vP (l:=Q) (k:=i+1) (d:=q)
  simpa using this
 rw[h2,hv,aQF];rw[<-hm]at h1;generalize 4294967296^i=P at*;generalize val (Q.drop (i+1))=D at*;generalize oV W' i (n+3)=M at*;have e1:P*4294967296*(D*v)+P*(q*v)=P*((q+4294967296*D)*v):=by
  rw[aK8,aQp]
  have:P*4294967296*(D*v)=P*(4294967296*D*v):=by ac_rfl
  omega
 rw[aQp]at h1;omega
def Ay{va vb:AV}{a b:List Nat}(ha:eC va a)(hb:eC vb b)(na:Norm a)(nb:Norm b)(eQ:b≠[])(la:a.length<10000000000)(lb:b.length<10000000000):
  ∃q r,aR E 137 [va,vb]=some (.tuple [q,r])/\∃ql rl,eC q ql/\Norm ql/\val ql=val a/val b/\eC r rl/\Norm rl/\val rl=val a%val b:=by
 suffices hh:∃u,aR E 137 [va,vb]=some u/\∃q r,u=.tuple [q,r]/\∃ql rl,eC q ql/\Norm ql/\val ql=val a/val b/\eC r rl/\Norm rl/\val rl=val a%val b by
  obtain⟨u,h1,q,r,rfl,h2⟩:=hh;exact⟨q,r,h1,h2⟩
 refine pX aqU ?_;intro ts hl g0 g1;have T:=gW C.toOver;unfold aot;have G1:=dB (rB C ha hb na nb);have pa:=aO ha;have pb:=aO hb;by_cases ek:val a<val b
 ·have hd:decide (mI (val a) (val b)<0)=true:=bh (by unfold mI;rw[if_pos (by omega)];decide);simp only[↓aL,jg,↓aT,aJ,aa,ae,Tryz.f137,hl,g0,g1,G1,pa,pb,hd];exact⟨_,_,rfl,[],a,⟨by simp,.inr ⟨rfl,.inl rfl⟩⟩,by intro d l0 h;simp at h,by rw[aSe ek];rfl,ha,na,(aRx ek).symm⟩
 have hd:decide (mI (val a) (val b)<0)=false:=bj (by unfold mI;rw[if_neg (by omega)];split<;>decide);have CV:0<b.length:=aSc.2 eQ;by_cases h1:b.length=1
 ·obtain⟨x,rfl⟩:∃x,b=[x]:=by
   match b,h1 with
   |[x],_=>exact⟨x,rfl⟩
  have pZ:x<4294967296:=hb.1 x (by simp);have AH:x≠0:=nb x [] rfl;have Ue:(((([x]:List Nat).length:Nat):Int)==1)=true:=rfl;have JI:=ji T hb (k:=.i64) (z:=0) (by omega) (by simp);have LP:(cA [x])[0]?=some (.int .u32 (x:Int)):=rfl;obtain⟨r0,r8,ql,hq,vH,hqv⟩:=OL C ha (by omega) AH pZ;have Uk:val [x]=x:=by simp[val]
  rw[Uk];have aky:val a%x<4294967296:=Nat.lt_trans (aR2 _ (by omega)) pZ;have Bj:eC (.aK (cA [val a%x]) 1) [val a%x]:=⟨by simpa using aky,.inl rfl⟩;obtain⟨r,hr,Ee⟩:=je C Bj (by simp);have kr:=dB hr;have fY:qR false [.cells .live [.int .u32 ((val a%x:Nat):Int)]] [.aI 0 0 1 1 1]=some ([.aK (cA [val a%x]) 1],[0]):=CQ (l:=[val a%x]) (st:=.live) rfl (by decide) rfl;simp only[↓aL,jg,↓aT,aJ,aa,ae,gI,gX,ar,cp,Tryz.f137,hl,g0,g1,G1,pa,pb,hd,lF hb,JI,LP,r8,bs1,kF,fY,kr,aO hq,aO Ee];exact⟨_,_,rfl,ql,_,hq,vH,hqv,Ee,iU _,by rw[hJ];simp[val]⟩
 obtain⟨n,hn⟩:∃n,b.length=n+2:=⟨b.length-2,by omega⟩;have Ue:((b.length:Int)==1)=false:=by rw[beq_eq_false_iff_ne];omega
 have hle:b.length<=a.length:=by
  refine aSf fun h=>ek (vh ha.1 nb h)
 have wb1:aW .i64 ((b.length:Int)-1)=((n+1:Nat):Int):=by rw[wrap_i64];omega
 have JI:=ji T hb (k:=.i64) (z:=((n+1:Nat):Int));rw[aQD]at JI;have LP:=fK (out:=b) (j:=n+1);have pZ:=fw hb.1 (i:=n+1);have AH:b.getD (n+1) 0≠0:=by refine nb _ (b.take (n+1)) ?_;have e:=(aOC (n+1) b).symm;rw[aQI (by omega),aR9 (by omega)]at e;rw[aQE,aLh (by omega)];exact e
 obtain⟨s,akL,hlz,Ss,Jv⟩:=OJ (x:=b.getD (n+1) 0) (by omega) pZ;have ato:=adP (E:=E) pZ;rw[hlz]at ato;obtain⟨_,_,hra,U,rfl,rfl,hUl,MM,hUv⟩:=AX (E:=E) ha (by omega) akL (H0:=[]);obtain⟨_,_,hrb,Bt,rfl,rfl,hBl,hBd,hBv⟩:=AX (E:=E) hb (by omega) akL (H0:=[.cells .live (cA U)]);simp only[aQk,List.nil_append]at hra;simp only[List.length_cons,aQk,List.cons_append,List.nil_append,Nat.zero_add]at hrb;have Bj:eC (.aK (cA Bt) (b.length+1)) Bt:=⟨hBd,.inl (by rw[hBl])⟩;obtain⟨vv,hvv,hvm⟩:=je C Bj;have az7:=dB hvv;have hVn:=iU Bt;have hVv:=hJ Bt;rw[hBv]at hVv;generalize iH Bt=Vl at hvm hVn hVv;obtain⟨hVl,hVt⟩:=Y8 hb.1 hn hvm.1 hVn Ss Jv hVv;obtain rfl:vv=.aK (cA Vl) (n+2):=by
  rcases hvm.2 with h|⟨h,_⟩
  ·rw[h,hVl]
  ·rw[h]at hVl;simp at hVl
 have atJ:=Z5 ha.1 nb eQ hle hVv;rw[<-hUv]at atJ;have azm:qR false [.cells .live (cA U),.cells .live (cA Bt)] [.aI 1 0 (b.length+1) 1 (b.length+1)]=some ([.aK (cA Bt) (b.length+1)],[1]):=CQ (st:=.live) rfl (by decide) hBl;obtain⟨K,hK⟩:∃K,K=a.length-b.length+1:=⟨_,rfl⟩;have wab:aW .i64 ((a.length:Int)-(b.length:Int))=((a.length-b.length:Nat):Int):=by rw[wrap_i64];omega
 have wK:aW .i64 (((a.length-b.length:Nat):Int)+1)=(K:Int):=by rw[wrap_i64];omega
 have wK1:aW .i64 ((K:Int)-1)=(K:Int)-1:=wrap_i64;simp only[↓aL,jg,↓aT,aJ,↓reduceIte,aa,ah,ae,gI,gX,Hm,cp,Tryz.f137,hl,g0,g1,G1,pa,pb,hd,lF ha,lF hb,Ue,wb1,JI,LP,ato,hra,hrb,azm,az7,Tt,om,aag,wab,wK,wK1,ahf (show K<=100000000000 by omega),K5,jL,kF];refine cE (fun k_ ts H=>∃m W Q,k_=0+m/\ts.length=79/\gt ts 4=.aI 2 0 K 1 K/\gt ts 8=.int .i64 (s:Int)/\gt ts 9=.aI 0 0 (a.length+1) 1 (a.length+1)/\gt ts 10=.aK (cA Vl) (n+2)/\gt ts 11=.int .i64 ((m:Int)-1)/\H=[.cells .live (cA W),.cells .ro (cA Bt),.cells .live (cA Q)]/\(m<=K)/\(W.length=a.length+1)/\(∀d∈W,d<4294967296)/\(Q.length=K)/\(∀d∈Q,d<4294967296)/\(∀j,m+(n+2)<=j->W.getD j 0=0)/\(0<m->oV W (m-1) (n+3)<4294967296*val Vl)/\(m<K->oV W m (n+2)<val Vl)/\(val U=4294967296^m*(val (Q.drop m)*val Vl)+val W)) (K) ?_ ?_
 rotate_left
 ·refine⟨K,U,List.replicate K 0,(by first|omega|rfl|simp),(by simp[bc,hl]),?_⟩;simp only[aZ,hl,aa,ae]
  iterate 6 refine cG ?_
  refine⟨?_,?_,?_,?_,?_,?_,?_,?_,?_⟩
  ·first|omega|trivial
  ·first|exact hUl|trivial
  ·first|exact MM|trivial
  ·first|simp|trivial
  ·first|exact BO|trivial
  ·first|(intro j hj;rw[aQE,aKG (by omega)];rfl)|trivial
  ·first|(intro _;rw[show K-1=a.length-b.length by omega];exact N9 (by omega) atJ)|trivial
  ·first|(intro h;omega)|trivial
  ·first|(rw[aR9 (by simp)];simp[val])|trivial
 clear hl g0 g1 ts;rintro k_ ts H ⟨m,W,Q,rfl,hl,g4,g8,g9,g10,g11,rfl,hk,hW,hWd,hQ,hQd,hWz,hW1,Bg,hv⟩;refine VS ?_;by_cases hk0:m=0
 ·subst hk0;have oT:decide ((0:Int)-1≥0)=false:=rfl;have hmq:eC (.aK (cA Q) K) Q:=⟨hQd,.inl (by rw[hQ])⟩;have hmw:eC (.aK (cA W) (a.length+1)) W:=⟨hWd,.inl (by rw[hW])⟩;obtain⟨qv,hqv,XD⟩:=je C hmq;obtain⟨wv,hwv,hwm⟩:=je C hmw;have azS:=dB hqv;have aAb:=dB hwv;obtain⟨rv,hrv,rl,Ee,hrn,atB⟩:=Hn (E:=E) hwm (by obtain⟨z,hz⟩:=pM W;have:=congrArg List.length hz;rw[List.length_append]at this;omega) akL;have hfq:qR false [.cells .live (cA W),.cells .ro (cA Bt),.cells .live (cA Q)] [.aI 2 0 K 1 K]=some ([.aK (cA Q) K],[2]):=CQ (st:=.live) rfl (by decide) hQ;have hfw:∀c:Bool,qR false ((if c=true then cC.looks [2]else cC.marks [2]).app [.cells .live (cA W),.cells .ro (cA Bt),.cells .live (cA Q)]) [.aI 0 0 (a.length+1) 1 (a.length+1)]=some ([.aK (cA W) (a.length+1)],[0]):=by
   intro c;cases c
   ·exact CQ (st:=.live) rfl (by decide) hW
   ·exact CQ (st:=.live) rfl (by decide) hW
  simp only[↓aL,jg,↓aT,aJ,↓reduceIte,aa,ae,hl,g4,g8,g9,g11,oT,hfq,azS,hfw,aAb,hrv,aO XD,aO hwm,aO Ee];have ast:=Bg (by omega);have Xs:=ae5 (W:=W) (m:=n+2) (by omega) (fun j hj=>hWz j (by omega));simp only[List.drop_zero,Nat.pow_zero,aSu]at hv;rw[hUv,hVv]at hv;rw[<-Xs,hVv]at ast;obtain⟨f1,f2⟩:=ab6 hv ast (aRZ s);refine⟨_,_,rfl,_,rl,XD,iU _,by rw[hJ];exact f1,Ee,hrn,?_⟩;rw[atB,hJ];exact f2
 ·obtain⟨i,rfl⟩:∃i,m=i+1:=⟨m-1,by omega⟩;have ayG:gt ts 11=.int .i64 (i:Int):=by rw[g11];congr 1;omega
  have oT:decide ((i:Int)≥0)=true:=bh;have ass:=hW1 (by omega);rw[aSs]at ass;have e2:((i:Int)<((K:Nat):Int))=True:=eq_true (by omega);have wx:aW .i64 ((i:Int)+((n+2:Nat):Int))=((i+(n+2):Nat):Int):=by rw[<-aRz];exact qQ
  have wy:aW .i64 (((i+(n+2):Nat):Int)+1)=((i+(n+2)+1:Nat):Int):=by rw[wrap_i64];omega
  have wz:aW .i64 ((i:Int)-1)=(i:Int)-1:=wrap_i64;have C0:∀H,HR E H 56 (.aI 0 0 (a.length+1) 1 (a.length+1)) (some (.int .i64 (i:Int))) (some (.int .i64 ((i+(n+2)+1:Nat):Int)))=some (.aI 0 i (n+3) 1 (a.length+1-i)):=by intro H;rw[aBj (by omega) (by omega),show i+(n+2)+1-i=n+3 by omega]
  obtain⟨_,_,aze,q,W',rfl,rfl,azP,asx,asv,hWo,azB,Sn⟩:=Mr (E:=E) (off:=i) (kc:=a.length+1-i) (H1:=[.cells .ro (cA Bt),.cells .live (cA Q)]) hvm hVl (by omega) (by omega) (by omega) hWd hVt ass;have dp:=fun z H=>qb (H:=H) (z:=z) (out:=Q) (j:=i) (by omega)
  simp only[↓aL,jg,↓aT,aJ,↓reduceIte,aa,ah,ae,gX,YT,cp,hl,g4,g9,g10,ayG,e2,wx,wy,wz,C0,aze,dp,nD,jL,eK,AV.cells];refine bK ?_;refine⟨_,?_,i,W',Q.set i q,rfl,(by simp[bc,hl]),?_⟩
  ·first|omega|(simp;omega)
  simp only[aZ,hl,aa,ae,g4,g8,g9,g10]
  iterate 6 refine cG ?_
  refine⟨?_,?_,?_,?_,?_,?_,?_,?_,?_⟩
  ·omega
  ·rw[asx,hW]
  ·exact asv
  ·simpa using hQ
  ·exact cZ hQd azP
  ·intro j hj;by_cases LK:i+(n+3)<=j
   ·rw[hWo j (.inr LK)];exact hWz j (by omega)
   ·obtain rfl:j=i+(n+2):=by omega
    have h5:=kE (U:=W') (off:=i) (k:=n+2);have h6:=oK hvm.1;rw[hVl]at h6;rw[show n+3=n+2+1 from rfl]at Sn;exact aah h5 Sn h6
  ·intro hi;obtain⟨i',rfl⟩:∃i',i=i'+1:=⟨i-1,by omega⟩;rw[aSs,Y0 (by omega)];have h5:=kE (U:=W') (off:=i'+1) (k:=n+2);have h7:=fw asv (i:=i');rw[show n+3=n+2+1 from rfl]at Sn;exact ad0 h5 Sn h7
  ·intro _;have h5:=kE (U:=W') (off:=i) (k:=n+2);rw[show n+3=n+2+1 from rfl]at Sn;exact aR1 (by rw[h5];exact Nat.le_add_right _ _) Sn
  ·exact Wm (by rw[hW,hUl]) (by omega) asx hWo azB (by omega) hv
def ya{l:List Nat}{z:Int}(hn:Norm l)(hz:z.natAbs=val l)(h:Fit z):l.length<10000000000:=by
 obtain⟨n,h1,h2⟩:=h;by_cases he:l=[]
 ·subst he;simp
 ·have h3:=An hn he;have h4:l.length-1<n:=by
   have:4294967296^(l.length-1)<4294967296^n:=by omega
   exact(aR6 (by omega)).1 this
  omega
def p9{a b:List Nat}(ha:∀d∈a,d<4294967296)(nb:Norm b)(h:val b<=val a):b.length<=a.length:=by
 refine aSf fun ek=>?_
 have:=vh ha nb ek
 omega
def tx{v w:AV}{x y:Int}(h:eB v x)(k:eB w y)(fx:Fit x)(fy:Fit y):∃r,aR E 109 [v,w]=some r/\eB r ((Int.gcd x y:Nat):Int):=by
 obtain⟨na,m,a,rfl,hm,hn,oZ,rfl⟩:=h;obtain⟨nb,m',b,rfl,kq,xg,Jt,rfl⟩:=k;have la:=ya hn nh fx;have lb:=ya xg nh fy;refine pX aqM ?_;intro ts hl g0 g1;have T:=gW C.toOver;unfold aok;have hg:Int.gcd (if na=true then-(val a:Int)else val a) (if nb=true then-(val b:Int)else val b)=Nat.gcd (val a) (val b):=by unfold Int.gcd;rw[nh,nh]
 rw[hg];simp only[↓aL,jg,Ci,aJ,aa,ah,ae,Tryz.f109,hl,g0,g1];refine cE (fun k_ ts H=>∃xv xl yv yl,k_=0+val yl/\ts.length=26/\gt ts 4=.bI 2 0/\gt ts 5=xv/\gt ts 6=yv/\H=[.cells .live [.bool na,m],.cells .live [.bool nb,m'],.cells .live [.bool false,.aH]]/\(eC xv xl)/\(eC yv yl)/\(Norm xl)/\(Norm yl)/\(xl.length<10000000000)/\(yl.length<10000000000)/\(Nat.gcd (val xl) (val yl)=Nat.gcd (val a) (val b))) (val b) ?_ ?_
 rotate_left
 ·refine⟨m,a,m',b,(by first|omega|rfl|simp),(by simp[bc,hl]),?_⟩;simp only[aZ,hl,aa,ae]
  iterate 4 refine cG ?_
  refine⟨?_,?_,?_,?_,?_,?_,?_⟩
  ·first|exact hm|trivial
  ·first|exact kq|trivial
  ·first|exact hn|trivial
  ·first|exact xg|trivial
  ·first|exact la|trivial
  ·first|exact lb|trivial
  ·first|trivial|trivial
 clear hl g0 g1 ts;rintro k_ ts H ⟨xv,xl,yv,yl,rfl,hl,g4,g5,g6,rfl,hx,hy,nx,ny,lx,ly,akl⟩;refine VS ?_;by_cases hyn:yl=[]
 ·subst hyn;have hd:decide (((([]:List Nat).length:Nat):Int)>0)=false:=rfl;simp only[↓aL,jg,Ci,aJ,↓reduceIte,aa,ah,ae,au,hl,g4,g5,g6,lF hy,(bA hx).1,(bA hx).2,aO hx];refine⟨false,xv,xl,rfl,hx,nx,by simp,?_⟩;simp only[val,Nat.gcd_zero_right]at akl;rw[<-akl];rfl
 ·have hyl:0<yl.length:=aSc.2 hyn;have hyp:=BY ny hyn;have hd:decide ((yl.length:Int)>0)=true:=bh;obtain⟨qv,rv,hdv,ql,rl,hq,nq,vq,hr,nr,vr⟩:=Ay (E:=E) hx hy nx ny hyn lx ly;simp only[↓aL,jg,Ci,↓aT,aJ,aa,ah,ae,hl,g5,g6,lF hy,hd,hdv,aO hx,aO hy];have ek:val rl<val yl:=by rw[vr];exact aR2 _ hyp
  refine bK ?_;refine⟨_,?_,yv,yl,rv,rl,rfl,(by simp[bc,hl]),?_⟩
  ·first|omega|(simp;omega)
  simp only[aZ,hl,aa,ae,g4]
  iterate 4 refine cG ?_
  refine⟨?_,?_,?_,?_,?_,?_,?_⟩
  ·exact hy
  ·exact hr
  ·exact ny
  ·exact nr
  ·exact ly
  ·exact aR1 (p9 hy.1 nr (by omega)) ly
  ·rw[vr,<-akl,Nat.gcd_comm (val xl),Nat.gcd_rec (val yl) (val xl),Nat.gcd_comm]
def abY{s:List UInt8}:(AV.str s).cells=[.str s]:=rfl
def abX{k:IntKind}{n:Int}:(AV.int k n).cells=[.int k n]:=rfl
def abW{b:Bool}:(AV.bool b).cells=[.bool b]:=rfl
def alD{s:List UInt8}:cL (.str s)=true:=rfl
def alB{k:IntKind}{n:Int}:cL (.int k n)=true:=rfl
def alA{b:Bool}:cL (.bool b)=true:=rfl
def alC:cL .aH=true:=rfl
def Rf{l:List AV}:ej (.agg l)=[]:=rfl
def aeC{l:List AV}{n:Nat}:ej (.aK l n)=[]:=rfl
def aez:ej .aH=[]:=rfl
def aew:ej .dx=[]:=rfl
def aey{k:IntKind}{n:Int}:ej (.int k n)=[]:=rfl
def aev{b:Bool}:ej (.bool b)=[]:=rfl
def aeA{s:List UInt8}:ej (.str s)=[]:=rfl
def aeB{l:List AV}:ej (.tuple l)=[]:=rfl
def ahZ{b:Bool}:(b !=false)=b:=by cases b<;>rfl
def dy{v:AV}{z:Int}(h:eB v z):aU v=true:=by obtain⟨a,b,rfl,_,_,h1,h2⟩:=nX h;simp[aU,aV,h1,h2]
def Z0:Rl 0=0:=rfl
def mJ{v w:AV}{x y:Int}(h:eB v x)(k:eB w y)(fx:Fit x)(fy:Fit y)(hy:0<y)(hd:y∣x):
  ∃q r,aR E 110 [v,w]=some (.tuple [q,r,.int .i64 0])/\eB q (x/y)/\eB r 0:=by
 suffices hh:∃u,aR E 110 [v,w]=some u/\∃q r,u=.tuple [q,r,.int .i64 0]/\eB q (x/y)/\eB r 0 by
  obtain⟨u,h1,q,r,rfl,h2⟩:=hh;exact⟨q,r,h1,h2⟩
 have zT:=jX C k;rw[show Rl y=1 by unfold Rl;split<;>(try split)<;>omega]at zT;have pv:=dy h;have pw:=dy k;obtain⟨na,m,a,rfl,hm,hn,oZ,rfl⟩:=h;obtain⟨nb,m',b,rfl,kq,xg,Jt,rfl⟩:=k;have la:=ya hn nh fx;have lb:=ya xg nh fy;obtain rfl:nb=false:=by
  cases nb with
  |false=>rfl
  |true=>simp only[if_true]at hy;omega
 simp only[aK4,if_false]at hy hd;have hbp:0<val b:=by omega
 have Uc:b≠[]:=by intro e;subst e;simp[val]at hbp
 have Si:val b∣val a:=by
  cases na with
  |false=>simp only[aK4,if_false]at hd;exact aR7.1 hd
  |true=>simp only[if_true]at hd;exact aR7.1 ((Int.dvd_neg).1 hd)
 obtain⟨qv,rv,hdv,ql,rl,hq,nq,vq,hr,nr,vr⟩:=Ay (E:=E) hm kq hn xg Uc la lb;rw[Nat.mod_eq_zero_of_dvd Si]at vr;have hql:ql.length<1000000000000:=by
  have:=p9 hm.1 nq (by rw[vq];exact aSh _ _)
  omega
 have hrl:rl.length<1000000000000:=by
  have:=p9 (a:=[]) (by simp) nr (by rw[vr];exact Nat.zero_le _)
  simp only[aQk]at this;omega
 obtain⟨q',hq',iq⟩:=iF C hq hql na;obtain⟨r',kr,ir⟩:=iF C hr hrl na;have cq:=dB hq';have cr:=dB kr;rw[vr]at ir;have ir0:eB r' 0:=by cases na<;>simpa using ir
 have hsr:=jX C ir0;have pq:=dy iq;have pr:=dy ir;refine pX aqN ?_;intro ts hl g0 g1;have T:=gW C.toOver;have Uj:eB q' ((if na=true then-(val a:Int)else val a)/(if false=true then-(val b:Int)else val b)):=by
  rw[vq]at iq;cases na with
  |false=>simpa using iq
  |true=>
   simp only[if_true,aK4,if_false]at iq⊢;rw[Int.neg_ediv_of_dvd (aR7.2 Si),<-Int.natCast_ediv];exact iq
 have zR:=ir0;obtain⟨nq',mq',aq',rfl,azC,aGN,_,aHi⟩:=iq;obtain⟨nr',mr',ar',rfl,azD,aGO,_,aHj⟩:=ir0;unfold aol;simp only[↓aL,jg,Ci,↓aT,aJ,↓reduceIte,aa,ah,ae,Tryz.f110,uv bo4,aj,aD,aE,Rf,hl,g0,g1,zT,hdv,aO hq,aO hr,aO hm,aO kq,cq,cr,pw,pq,pr,hsr,Z0,ahZ,(bA azC).2,(bA azD).2];exact⟨_,_,rfl,Uj,zR⟩
end Go.Proofs.YtmkjgfnicfpjpaaGreatDoor
namespace Go.Proofs.YtmkjgfnicfpjpaaGreatDoor
open Go Dv
variable{E:Env}[C:Ctx E]
def aoh:=dJ (dJ @aag @abY @abX @abW) (dJ @alD @alB @alA @alC) (dJ @Rf @aeC @aez @aew) (dJ @aey @aev @aeA @aeB)
def aM:=And.intro jg (And.intro Ci aoh)
end Go.Proofs.YtmkjgfnicfpjpaaGreatDoor
