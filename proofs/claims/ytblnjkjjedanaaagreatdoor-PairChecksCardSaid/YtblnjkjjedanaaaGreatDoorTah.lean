/- A part of the proof that PairChecks returns true for every input; no condition of its own. -/
import Derived.Test.YtblnjkjjedanaaaGreatDoorTag
set_option linter.all false
set_option maxHeartbeats 100000000
set_option maxRecDepth 100000
open Nat renaming mul_add->aPe,mul_le_mul_left->aPQ,pow_succ->aPA,lt_of_le_of_lt->aQQ,mul_le_mul_right->aLL,mul_comm->aPT,two_pow_pos->aQR,le_refl->aKR,lt_of_lt_of_le->aNt,pow_le_pow_right->aQT,mod_lt->aQU,mul_assoc->aPv,mod_eq_of_lt->aPz,pow_lt_pow_iff_right->aQW,mul_le_mul->aQY,add_zero->aQZ,lt_of_mul_lt_mul_left->aQ0,mul_zero->aPL,pos_of_ne_zero->aQ1,pow_add->aQ3,add_mul->aLS,div_eq_of_lt->aQ5,add_comm->aQ8,div_le_self->aQ9,shiftLeft_add_eq_or_of_lt->aRa,div_mul_le_self->aRb,mul_one->aPV,mul_lt_mul_of_pos_right->aRc,le_trans->aNm,le_of_not_lt->aRe,mod_add_div->aPH,div_add_mod->aRf,min_eq_left->aPM,strongRecOn->aRg,one_mul->aRh,mul_mod_mul_right->aRi,div_lt_iff_lt_mul->aRj,add_mul_div_right->aRk,div_lt_of_lt_mul->aRl,pow_le_pow_left->aRn,mul_div_cancel->aRo,zero_add->aLM,add_sub_cancel->aRp,reduceLT->aa,reduceEqDiff->ae,reduceAdd->ah,reduceBEq->aj
open List renaming getD->aPn,getElem?_eq_getElem->aL5,getD_eq_getElem?_getD->aQP,length_take->aMo,getElem?_set_ne->aNh,length_pos_iff->aQS,getElem?_set_self->aNl,take_length->aQV,getElem?_append_left->aNq,replicate->aK3,mem_of_mem_take->aPO,drop_of_length_le->aQ4,take_of_length_le->aPc,length_drop->aQ6,length_cons->aMm,getElem?_eq_none->aK4,take_append_drop->aQ7,length_nil->aO9,length_set->aO8,drop_zero->aPp,append_assoc->aRd,drop_eq_getElem_cons->aPB,foldl_cons->aMa,nil_append->aPg,map_cons->aLJ,take_set_of_le->aPR,length_reverse->aRm,getElem?_drop->aK7,mem_singleton->aMh,flatMap_cons->aMk,ext_getElem->aRt,flatMap_nil->aRu,getElem_mem->aMn
open Int renaming toNat_natCast->aPh,natCast_add->aPD,mul_le_mul_of_nonneg_left->aQX,natCast_mul->aPN,natCast_dvd_natCast->aQ2,emod_eq_of_lt->aRq,reduceLE->an,reduceLT->ao,reduceToNat->aq,reduceGT->ar,reduceBEq->aD,reduceBNe->aE
open Bool renaming false_eq_true->aKT
open Option renaming getD_some->aMp
namespace Go.Proofs.YtblnjkjjedanaaaGreatDoor
open Go Dv
variable{E:Env}[C:Ctx E]
theorem iC{v:AV}{l:List Nat}(h:fN v l):k9 v=some (l.length:Int):=by
 rcases h.2 with rfl|⟨rfl,rfl|rfl⟩<;>rfl
theorem PW{d n:Nat}(hd:d<4294967296)(hn:n<32):d*2^n<9223372036854775808:=by have h1:2^n<=2^31:=aQT (by omega) (by omega);have h2:d*2^n<=4294967295*2^31:=aQY (by omega) h1;omega
theorem acp{d n:Nat}(hn:n<32):∃q,d*2^n%4294967296=q*2^n:=by
 refine⟨d%2^(32-n),?_⟩
 have:(4294967296:Nat)=2^(32-n)*2^n:=by rw[<-aQ3,show 32-n+n=32 by omega]
 rw[this,aRi]
theorem YX{r d n:Nat}(hr:r<2^n)(hn:n<32):(r|||(d*2^n%4294967296))=r+d*2^n%4294967296:=by
 obtain⟨q,hq⟩:=acp (d:=d) hn;rw[hq]
 have:=aRa (i:=n) (b:=r) hr q
 rw[Nat.shiftLeft_eq]at this;rw[Nat.or_comm,<-this,aQ8]
theorem ahg{d n:Nat}(hd:d<4294967296):d*2^n/4294967296<2^n:=by rw[aRj (by omega),aPT];exact Nat.mul_lt_mul_of_pos_left hd (aQR n)
theorem asl{r d n:Nat}(hr:r<2^n)(hn:n<32):r+d*2^n%4294967296<4294967296:=by rw[<-YX hr hn];have h1:2^n<=2^32:=aQT (by omega) (by omega);exact Nat.or_lt_two_pow (n:=32) (by omega) (aQU _ (by decide))
theorem Dg{v:AV}{a:List Nat}(ha:fN v a)(la:a.length<10000000001){n:Nat}(hn:n<32){H0:Hp}:
  ∃r H',de E 178 [v,.int .i64 (n:Int)] H0=some (r,H')/\∃out,r=.aI H0.length 0 (a.length+1) 1 (a.length+1)/\H'=H0++[.cells .live (cM out)]/\out.length=a.length+1/\(∀d∈out,d<4294967296)/\val out=val a*2^n:=by
 refine gi2 (by rw[C.sj]) (by rw[C.fn];exact aqP) (by decide) ?_;intro ts hl g0 g1;have T:=jb C.toOver;unfold arX;have w1:aX .i64 ((a.length:Int)+1)=((a.length+1:Nat):Int):=by rw[wrap_i64 (by omega) (by omega)];simp
 simp only[↓aN,lf,aJ,aa,ae,jS,cQ,Tryz.f178,hl,g0,iC ha,w1,aeE (show a.length+1<=100000000000 by omega),NN,ep];refine ft (fun k_ ts H=>∃i out,k_=a.length-i/\ts.length=40/\gt ts 1=.int .i64 (n:Int)/\gt ts 5=.aI H0.length 0 (a.length+1) 1 (a.length+1)/\gt ts 12=v/\gt ts 13=.int .i64 (a.length:Nat)/\gt ts 14=.int .i64 (i:Nat)/\H=H0++[.cells .live (cM out)]/\(i<=a.length)/\(out.length=a.length+1)/\(∀d∈out,d<4294967296)/\(out.getD i 0<2^n)/\(∀j,i<j->out.getD j 0=0)/\(val (out.take i)+4294967296^i*out.getD i 0=val (a.take i)*2^n)) (a.length) ?_ ?_
 rotate_left
 ·refine⟨0,aK3 (a.length+1) 0,(by first|omega|rfl|(simp;done)),(by simp only[cP,hl]),?_⟩;simp only[cR,hl,aa,ae,g1]
  iterate 6 refine⟨by first|trivial|rfl|(congr 1;omega)|(simp;done)|(simp;omega),?_⟩
  refine⟨?_,?_,?_,?_,?_,?_⟩
  ·omega
  ·simp
  ·exact EA
  ·simp[aPn];exact aQR n
  ·intro j hj;rw[aPn,List.getElem?_replicate];split<;>rfl
  ·simp[val,aPn]
 clear hl g0 g1 ts;rintro k_ ts H ⟨i,out,rfl,hl,g1,g5,g12,g13,g14,rfl,hi,ho,hd,hr,hz,hv⟩;refine VS ?_;by_cases uv:i<a.length
 ·have sk:decide ((i:Int)<(a.length:Int))=true:=b8 (by omega);have HG:=k8 T ha (k:=.i64) (z:=(i:Int)) (by omega) (by omega);rw[aPh]at HG;have CG:=il uv;have tt:=gY ha.1 (i:=i);generalize hx:a.getD i 0=x at CG tt;have kO:i<out.length:=by omega
  have agl:i+1<out.length:=by omega
  have ldo:=il kO;have ar6:=gY hd (i:=i);generalize hcq:out.getD i 0=c at ldo hr hv ar6;have c1:((i:Int)<((a.length+1:Nat):Int))=True:=eq_true (by omega);have c2:(((i+1:Nat):Int)<((a.length+1:Nat):Int))=True:=eq_true (by omega);have w2:aX .i64 ((i:Int)+1)=((i+1:Nat):Int):=by rw[wrap_i64 (by omega) (by omega)];simp
  have hm:=PW tt hn;have wx:aX .u64 (x:Int)=x:=wrap_u64 (by omega);have w3:aX .u64 ((x*2^n:Nat):Int)=((x*2^n:Nat):Int):=wrap_u64 (by omega);have sh1:∀{cc:Bool} {t:Nat},dC E cc .shl t (.int .u32 (x:Int)) (.int .i64 (n:Int))=some (.int .u32 ((x*2^n%4294967296:Nat):Int)):=by
   intro cc t;rw[JP (show n<=IntKind.u32.bits by show n<=32;omega),wrap_u32]
  have sh2:∀{cc:Bool} {t:Nat},dC E cc .shl t (.int .u64 (x:Int)) (.int .i64 (n:Int))=some (.int .u64 ((x*2^n:Nat):Int)):=by
   intro cc t;rw[JP (show n<=IntKind.u64.bits by show n<=64;omega),w3]
  have hor:∀{cc:Bool} {t:Nat},dC E cc .or t (.int .u32 (c:Int)) (.int .u32 ((x*2^n%4294967296:Nat):Int))=some (.int .u32 ((c+x*2^n%4294967296:Nat):Int)):=by intro cc t;rw[SQ ar6 (aQU _ (by decide)),YX hr hn]
  have yP:=fun z=>Sp (H:=H0) (z:=z) kO
  have aal:=fun z=>Sp (H:=H0) (z:=z) (out:=out.set i (c+x*2^n%4294967296)) (j:=i+1) (by simpa using agl)
  simp only[↓aN,lf,aJ,↓reduceIte,aa,ah,ae,nO,cQ,↓iM jT iB,↓iM iB jT,hl,g1,g5,g12,g13,g14,sk,HG,CG,ldo,Mk,c1,c2,w2,wx,sh1,sh2,hor,yP,aal,CY,lR,wrap_u32,AV.cells];refine dG ?_;refine⟨_,?_,i+1,(out.set i (c+x*2^n%4294967296)).set (i+1) (x*2^n/4294967296%4294967296),rfl,(by simp only[cP,hl]),?_⟩
  ·first|omega|(simp;omega)
  simp only[cR,hl,aa,ae,g1,g5,g12,g13]
  iterate 6 refine⟨by first|trivial|rfl|(congr 1;omega)|(simp;done)|(simp;omega),?_⟩
  refine⟨?_,?_,?_,?_,?_,?_⟩
  all_goals have P7:=ahg (n:=n) tt
  all_goals have aE2:2^n<=2^32:=aQT (by omega) (by omega)
  all_goals have alX:x*2^n/4294967296%4294967296=x*2^n/4294967296:=aPz (by omega)
  ·omega
  ·simpa using ho
  ·exact dL (dL hd (asl hr hn)) (aQU _ (by decide))
  ·rw[aPn,aNl (by simpa using agl),alX];exact P7
  ·intro j hj;rw[aPn,aNh (by omega),aNh (by omega)];exact hz j (by omega)
  ·rw[aPR (aKR _),fU kO,alX];have e0:((out.set i (c+x*2^n%4294967296)).set (i+1) (x*2^n/4294967296)).getD (i+1) 0=x*2^n/4294967296:=by rw[aPn,aNl (by simpa using agl)];rfl
   rw[e0,cJ uv,hx,aLS,<-hv,aPe,aPA,aPv,aPv];have e2:4294967296^i*(x*2^n%4294967296)+4294967296^i*(4294967296*(x*2^n/4294967296))=4294967296^i*(x*2^n):=by rw[<-aPe,aPH]
   omega
 ·have sk:decide ((i:Int)<(a.length:Int))=false:=cg (by omega);obtain rfl:i=a.length:=by omega
  simp only[↓aN,lf,↓reduceIte,aa,ae,hl,g5,g13,g14,sk];refine⟨out,rfl,ho,hd,?_⟩;have h1:=ub (l:=out) (i:=a.length) (by omega);rw[aQ4 (by omega)]at h1;rw[h1];simp only[val,aPL,aQZ];rw[hv,aPc (aKR _)]
theorem AB{E:Env}{t n' rR:Nat}{ag:Bool}{z:List AV}(h:eu E t=some (ag,n',rR,z)){c:Bool}{a:AV}(ha:k9 a≠none):dC E c .eql t a .aH=some (.bool (match a with|.aH=>true|_=>false)):=by
 obtain⟨i,e,ei,h1,h2,_⟩:=ij h;obtain⟨cV,isAgg,size,bytes,zero,eS⟩:=i;simp only at h2;subst h2;cases a<;>first|(exact absurd rfl ha)|simp[dC,dC.zl,yJ,h1]
theorem Nq{aL:Nat}:aT E aL 58 0 []=some (.aI aL 0 0 1 0,[(aL,.cells .live [])]):=by obtain⟨i,e,ei,h1,h2,h3,h4,h5,h6,h7⟩:=ij (DX (E:=E));obtain⟨cV,isAgg,size,bytes,zero,eS⟩:=i;simp only at h2;subst h2;simp[aT,h1,h3,h7,h5,gV,iE]
theorem TJ{l:List Nat}:(cM l).all df=true:=by simp[cM,df]
theorem U9{a:List Nat}(dY:0<a.length)(la:a.length<10000000001):aV E [.cells .live []] 1 .append [58,58] [.aI 0 0 0 1 0,.aK (cM a) a.length]=some (.aI 1 0 a.length 1 a.length,[(0,.cells .dead []),(1,.cells .live (cM a))]):=by
 obtain⟨i,e,ei,h1,h2,h3,h4,h5,h6,h7⟩:=ij (DX (E:=E));have hs:sV [.cells .live []] ei.size (.aK (cM a) a.length)=some (cM a):=by simp[sV,kJ,pH,h5]
 have:=AX (E:=E) (H:=[.cells .live []]) (aL:=1) (b:=0) (off:=0) (len:=0) (kc:=0) (n:=a.length) (cs:=[]) h1 h2 h3 (x:=.aK (cM a) a.length) rfl hs dY (by omega) TJ (by simp[h7]) (by rw[h6];unfold gO;omega) (by omega) rfl (by omega) (by omega)
 rw[builtin_append h1 h2 rfl];simpa[h5]using this
theorem Ri{v:AV}(hv:v=.eW∨v=.aK [] 0):aV E [.cells .live []] 1 .append [58,58] [.aI 0 0 0 1 0,v]=some (.aI 0 0 0 1 0,[]):=by
 obtain⟨i,e,ei,h1,h2,h3,h4,h5,h6,h7⟩:=ij (DX (E:=E));obtain⟨cV,isAgg,size,bytes,zero,eS⟩:=i;simp only at h2;subst h2;rcases hv with rfl|rfl<;>simp[aV,h1,fQ,h3,vD,qe,sV,kJ]
theorem PL{a:List Nat}(dY:0<a.length)(la:a.length<10000000001):de E 211 [.aK (cM a) a.length] []=some (.aI 1 0 a.length 1 a.length,[.cells .dead [],.cells .live (cM a)]):=by
 suffices hh:∃r H',de E 211 [.aK (cM a) a.length] []=some (r,H')/\(r=.aI 1 0 a.length 1 a.length/\H'=[.cells .dead [],.cells .live (cM a)])by
  obtain⟨r,H',h1,rfl,rfl⟩:=hh;exact h1
 refine RL (by rw[C.sj]) (by rw[C.fn];exact afU) (by decide) ?_;intro ts hl g0;unfold ajl;simp only[↓aN,lf,↓reduceIte,aa,ae,Tryz.f211,hl,g0,AB (DX (E:=E)) (show k9 (.aK (cM a) a.length)≠none by simp[k9]),Nq,U9 dY la,cE.app,aMa,List.foldl_nil,eE]
 first|done|trivial|exact⟨rfl,rfl⟩
theorem Na{v:AV}(hv:v=.aH∨v=.eW∨v=.aK [] 0):∃r H',de E 211 [v] []=some (r,H')/\((r=.aH/\H'=[])∨(r=.aI 0 0 0 1 0/\H'=[.cells .live []])):=by
 refine RL (by rw[C.sj]) (by rw[C.fn];exact afU) (by decide) ?_;intro ts hl g0;unfold ajl;rcases hv with rfl|hv
 ·simp only[↓aN,lf,aa,ae,Tryz.f211,hl,g0,AB (DX (E:=E)) (show k9 .aH≠none by simp[k9])]
  first|trivial|exact .inl ⟨rfl,rfl⟩|exact .inl trivial
 ·have hn:dC E true .eql 58 v .aH=some (.bool false):=by
   rw[AB (DX (E:=E)) (by rcases hv with rfl|rfl<;>simp[k9])];rcases hv with rfl|rfl<;>rfl
  simp only[↓aN,lf,↓reduceIte,aa,ae,Tryz.f211,hl,g0,hn,Nq,Ri hv,cE.app,aMa,List.foldl_nil,eE]
  first|trivial|exact .inr ⟨rfl,rfl⟩|exact .inr trivial
theorem T7{x y n:Nat}(hx:x<4294967296)(hn:n<32):(x/2^n|||(y*4294967296/2^n%4294967296))=x/2^n+(y%2^n)*2^(32-n)/\x/2^n+(y%2^n)*2^(32-n)<4294967296:=by
 have hp:(4294967296:Nat)=2^(32-n)*2^n:=by rw[<-aQ3,show 32-n+n=32 by omega]
 have h1:y*4294967296/2^n=y*2^(32-n):=by
  conv=>lhs;rw[hp,<-aPv]
  exact aRo _ (aQR n)
 have h2:y*2^(32-n)%4294967296=(y%2^n)*2^(32-n):=by
  conv=>lhs;rw[hp,aPT (2^(32-n)) (2^n)]
  exact aRi _ _ _
 have h3:x/2^n<2^(32-n):=by rw[aRj (aQR n),<-hp];exact hx
 rw[h1,h2];have h4:=aRa (i:=32-n) (b:=x/2^n) h3 (y%2^n);rw[Nat.shiftLeft_eq]at h4;refine⟨by rw[Nat.or_comm,<-h4,aQ8],?_⟩;have h5:(y%2^n+1)*2^(32-n)<=2^n*2^(32-n):=aLL _ (aQU _ (aQR n));rw[aLS,aRh,aPT (2^n) (2^(32-n)),<-hp]at h5;omega
theorem Fw{P Q VO VA x r0:Nat}(Sv:Q*(x/Q)+x%Q=x)(hv:Q*VO+r0=VA+P*(x%Q)):Q*(VO+P*(x/Q))+r0=VA+P*x:=by
 have e2:P*x=P*(Q*(x/Q))+P*(x%Q):=by rw[<-aPe,Sv]
 have e3:Q*(P*(x/Q))=P*(Q*(x/Q)):=by ac_rfl
 rw[aPe,e3];omega
theorem RB{P Q R B VO VA x y r0:Nat}(hB:B=R*Q)(Sv:Q*(x/Q)+x%Q=x)(hv:Q*VO+r0=VA+P*(x%Q)):Q*(VO+P*(x/Q+y%Q*R))+r0=VA+P*x+P*B*(y%Q):=by
 have h1:=Fw Sv hv;have e1:Q*(VO+P*(x/Q+y%Q*R))=Q*(VO+P*(x/Q))+P*B*(y%Q):=by
  rw[aPe P,<-Nat.add_assoc,aPe Q (VO+P*(x/Q)),hB];congr 1
  ac_rfl
 omega
theorem Ju{v:AV}{a:List Nat}(ha:fN v a)(la:a.length<10000000001){n:Nat}(hn:n<32):
  ∃r,aP E 180 [v,.int .i64 (n:Int)]=some r/\∃l,fN r l/\Norm l/\val l=val a/2^n:=by
 refine tp aqh ?_;intro ts hl g0 g1;have T:=jb C.toOver;unfold am7;by_cases dY:a.length=0
 ·have KQ:a=[]:=List.eq_nil_of_length_eq_zero dY;subst KQ;have hv:v=.aH∨v=.eW∨v=.aK [] 0:=by
   rcases ha.2 with rfl|⟨_,rfl|rfl⟩
   ·exact .inr (.inr rfl)
   ·exact .inl rfl
   ·exact .inr (.inl rfl)
  obtain⟨r,H',hc,hrr⟩:=Na (E:=E) hv;have hmz:fN (.aK (cM []) 0) []:=⟨by simp,.inl rfl⟩;have hmn:fN .aH []:=⟨by simp,.inr ⟨rfl,.inl rfl⟩⟩;rcases hrr with⟨rfl,rfl⟩|⟨rfl,rfl⟩
  ·obtain⟨q,hq,V1⟩:=kX C hmn (by simp);have hq':=eh hq;simp only[↓aN,lf,↓aQ,aJ,aa,ae,jS,NJ,Tryz.f180,hl,g0,hc];refine ft (fun k_ ts H=>k_=0/\ts.length=45/\gt ts 5=.aH/\gt ts 10=.int .i64 0/\gt ts 11=.int .i64 0/\H=[]) (0) ?_ ?_
   rotate_left
   ·refine⟨(by first|omega|rfl|(simp;done)),(by simp only[cP,hl]),?_⟩;simp only[cR,hl,aa,ae];refine⟨?_,?_,?_,?_⟩
    iterate 4 first|trivial|rfl|(congr 1;omega)|(simp;done)|(simp;omega)
   clear hl g0 g1 ts;rintro k_ ts H ⟨rfl,hl,g5,g10,g11,rfl⟩;refine VS ?_;have hd:decide ((0:Int)<0)=false:=rfl;simp only[↓aN,lf,↓aQ,aJ,↓reduceIte,aa,ae,ao,hl,g5,g10,g11,hq',aM V1];exact⟨_,V1,kG _,by rw[jN];simp[val]⟩
  ·obtain⟨q,hq,V1⟩:=kX C hmz (by simp);have hq':=eh hq;have gg:ow false [.cells .live []] [.aI 0 0 0 1 0]=some ([.aK (cM []) 0],[0]):=by rw[nQ];exact xc (H:=[.cells .live (cM [])]) (b:=0) (l:=[]) (st:=.live) rfl (by decide)
   simp only[↓aN,lf,↓aQ,aJ,aa,ae,jS,J6,Tryz.f180,hl,g0,hc];refine ft (fun k_ ts H=>k_=0/\ts.length=45/\gt ts 5=.aI 0 0 0 1 0/\gt ts 10=.int .i64 0/\gt ts 11=.int .i64 0/\H=[.cells .live []]) (0) ?_ ?_
   rotate_left
   ·refine⟨(by first|omega|rfl|(simp;done)),(by simp only[cP,hl]),?_⟩;simp only[cR,hl,aa,ae];refine⟨?_,?_,?_,?_⟩
    iterate 4 first|trivial|rfl|(congr 1;omega)|(simp;done)|(simp;omega)
   clear hl g0 g1 ts;rintro k_ ts H ⟨rfl,hl,g5,g10,g11,rfl⟩;refine VS ?_;have hd:decide ((0:Int)<0)=false:=rfl;simp only[↓aN,lf,↓aQ,aJ,↓reduceIte,aa,ae,ao,hl,g5,g10,g11,gg,hq',aM V1];exact⟨_,V1,kG _,by rw[jN];simp[val]⟩
 ·have NH:0<a.length:=by omega
  obtain rfl:v=.aK (cM a) a.length:=by
   rcases ha.2 with rfl|⟨rfl,_⟩
   ·rfl
   ·simp at NH
  simp only[↓aN,lf,↓aQ,aJ,aa,ae,jS,J6,Tryz.f180,hl,g0,PL NH la];refine ft (fun k_ ts H=>∃i out,k_=a.length-i/\ts.length=45/\gt ts 0=.aK (cM a) a.length/\gt ts 1=.int .i64 (n:Int)/\gt ts 5=.aI 1 0 a.length 1 a.length/\gt ts 10=.int .i64 (a.length:Nat)/\gt ts 11=.int .i64 (i:Nat)/\H=[.cells .dead [],.cells .live (cM out)]/\(i<=a.length)/\(out.length=a.length)/\(∀d∈out,d<4294967296)/\(∀j,i<=j->out.getD j 0=a.getD j 0)/\(2^n*val (out.take i)+a.getD 0 0%2^n=val (a.take i)+4294967296^i*(a.getD i 0%2^n))) (a.length) ?_ ?_
  rotate_left
  ·refine⟨0,a,(by first|omega|rfl|(simp;done)),(by simp only[cP,hl]),?_⟩;simp only[cR,hl,aa,ae,g0,g1]
   iterate 6 refine⟨by first|trivial|rfl|(congr 1;omega)|(simp;done)|(simp;omega),?_⟩
   refine⟨?_,?_,?_,?_,?_⟩
   ·omega
   ·trivial
   ·exact ha.1
   ·intro j _;trivial
   ·simp[val]
  clear hl g0 g1 ts;rintro k_ ts H ⟨i,out,rfl,hl,g0,g1,g5,g10,g11,rfl,hi,ho,hd,hs,hv⟩;refine VS ?_;have hp2:=aQR n;by_cases uv:i<a.length
  ·have sk:decide ((i:Int)<(a.length:Int))=true:=b8 (by omega);have c1:((i:Int)<((a.length:Nat):Int))=True:=eq_true (by omega);have kO:i<out.length:=by omega
   have ldo:=il kO;rw[hs i (aKR _)]at ldo;have tt:=gY ha.1 (i:=i);have Sv:=aRf (a.getD i 0) (2^n);have hts:=cJ uv;generalize hx:a.getD i 0=x at ldo tt Sv hts hv;have w2:aX .i64 ((i:Int)+1)=((i+1:Nat):Int):=by rw[wrap_i64 (by omega) (by omega)];simp
   have sh1:∀{cc:Bool} {t:Nat},dC E cc .shr t (.int .u32 (x:Int)) (.int .i64 (n:Int))=some (.int .u32 ((x/2^n:Nat):Int)):=by
    intro cc t;exact Sx (show n<=IntKind.u32.bits by show n<=32;omega)
   have yP:=fun z H=>sY (H:=H) (z:=z) kO
   have hxd:x/2^n<4294967296:=aQQ (aQ9 _ _) tt;by_cases az6:i+1<a.length
   ·have DK:decide (((i+1:Nat):Int)<(a.length:Int))=true:=b8 (by omega);have c2:(((i+1:Nat):Int)<((a.length:Nat):Int))=True:=eq_true (by omega);have CG:=il az6;have adH:=gY ha.1 (i:=i+1);have anr:=il (out:=out.set i (x/2^n)) (j:=i) (by simpa using kO);rw[show(out.set i (x/2^n)).getD i 0=x/2^n by rw[aPn,aNl kO];rfl]at anr;have e0:((out.set i (x/2^n)).set i (x/2^n+(a.getD (i+1) 0%2^n)*2^(32-n)))=out.set i (x/2^n+(a.getD (i+1) 0%2^n)*2^(32-n)):=by simp
    generalize hy:a.getD (i+1) 0=y at CG adH e0;obtain⟨hor,iH⟩:=T7 (x:=x) (y:=y) tt hn;have wy:aX .u64 (y:Int)=y:=wrap_u64 (by omega);have sh2:∀{cc:Bool} {t:Nat},dC E cc .shr t (.int .u64 ((y*4294967296:Nat):Int)) (.int .i64 (n:Int))=some (.int .u64 ((y*4294967296/2^n:Nat):Int)):=by
     intro cc t;exact Sx (show n<=IntKind.u64.bits by show n<=64;omega)
    have avB:∀{cc:Bool} {t:Nat},dC E cc .or t (.int .u32 ((x/2^n:Nat):Int)) (.int .u32 ((y*4294967296/2^n%4294967296:Nat):Int))=some (.int .u32 ((x/2^n+(y%2^n)*2^(32-n):Nat):Int)):=by intro cc t;rw[SQ hxd (aQU _ (by decide)),hor]
    have aal:=fun z H=>sY (H:=H) (z:=z) (out:=out.set i (x/2^n)) (j:=i) (by simpa using kO)
    simp only[↓aN,lf,Gw,aJ,↓reduceIte,aa,ah,ae,↓Fo jT iB,↓Fo iB jT,zB jT iB,zB iB jT,hl,g0,g1,g5,g10,g11,c1,c2,w2,wy,ldo,anr,CG,sh1,sh2,avB,yP,aal,wV (show y<4294967296 by omega),wrap_u32,AV.cells];refine dG ?_;refine⟨_,?_,i+1,(out.set i (x/2^n)).set i (x/2^n+(y%2^n)*2^(32-n)),rfl,(by simp only[cP,hl]),?_⟩
    ·first|omega|(simp;omega)
    simp only[cR,hl,aa,ae,g0,g1,g5,g10]
    iterate 6 refine⟨by first|trivial|rfl|(congr 1;omega)|(simp;done)|(simp;omega),?_⟩
    refine⟨?_,?_,?_,?_,?_⟩
    ·omega
    ·simpa using ho
    ·rw[e0];exact dL hd iH
    ·intro j hj;rw[e0,aPn,aNh (by omega)];exact hs j (by omega)
    ·rw[e0,fU kO,hts,hy,aPA];exact RB (show(4294967296:Nat)=2^(32-n)*2^n by rw[<-aQ3,show 32-n+n=32 by omega]) Sv hv
   ·have DK:decide (((i+1:Nat):Int)<(a.length:Int))=false:=cg (by omega);simp only[↓aN,lf,Gw,aJ,↓reduceIte,aa,ah,ae,hl,g0,g1,g5,g10,g11,DK,c1,w2,ldo,sh1,yP,AV.cells];refine dG ?_;refine⟨_,?_,i+1,out.set i (x/2^n),rfl,(by simp only[cP,hl]),?_⟩
    ·first|omega|(simp;omega)
    simp only[cR,hl,aa,ae,g0,g1,g5,g10]
    iterate 6 refine⟨by first|trivial|rfl|(congr 1;omega)|(simp;done)|(simp;omega),?_⟩
    refine⟨?_,?_,?_,?_,?_⟩
    ·omega
    ·simpa using ho
    ·exact dL hd hxd
    ·intro j hj;rw[aPn,aNh (by omega)];exact hs j (by omega)
    ·have hz:a.getD (i+1) 0=0:=by rw[aPn,aK4 (by omega)];rfl
     rw[fU kO,hts,hz,Nat.zero_mod,aPL,aQZ];exact Fw Sv hv
  ·have sk:decide ((i:Int)<(a.length:Int))=false:=cg (by omega);obtain rfl:i=a.length:=by omega
   have xJ:fN (.aK (cM out) a.length) out:=⟨hd,.inl (by rw[ho])⟩;obtain⟨q,hq,V1⟩:=kX C xJ (by omega);have hq':=eh hq;have gg:ow false [.cells .dead [],.cells .live (cM out)] [.aI 1 0 a.length 1 a.length]=some ([.aK (cM out) a.length],[1]):=by
    rw[nQ]
    have:=xc (H:=[.cells .dead [],.cells .live (cM out)]) (b:=1) (l:=out) (st:=.live) rfl (by decide)
    rwa[ho]at this
   simp only[↓aN,lf,↓aQ,aJ,↓reduceIte,aa,ae,hl,g5,g10,g11,sk,gg,hq',aM V1];refine⟨_,V1,kG _,?_⟩;rw[jN];rw[aPc (aKR _),aPc (by omega)]at hv;have hz:a.getD a.length 0=0:=by rw[aPn,aK4 (by omega)];rfl
   rw[hz]at hv;simp only[Nat.zero_mod,aPL,aQZ]at hv;have hr:=aQU (a.getD 0 0) hp2;symm;rw[<-hv,Nat.mul_add_div hp2,aQ5 hr,aQZ]
end Go.Proofs.YtblnjkjjedanaaaGreatDoor
namespace Dv.b7
theorem oU{p a b:Nat}(h:p*a<p*b):a<b:=aQ0 h
structure re(B P u v ul vl u0 u1 u2 v1 v2:Nat):Prop where
 hu:u=ul+P*(u2+B*(u0*B+u1))
 hv:v=vl+P*(v2+B*v1)
 ulP:ul<P
 vlP:vl<P
 u2B:u2<B
 u1B:u1<B
 v2B:v2<B
 v1p:0<v1
 lt:u<B*v
variable{B P u v ul vl u0 u1 u2 v1 v2:Nat}
theorem re.Pp(L:re B P u v ul vl u0 u1 u2 v1 v2):0<P:=by have:=L.ulP;omega
theorem re.Bp(L:re B P u v ul vl u0 u1 u2 v1 v2):0<B:=by have:=L.u2B;omega
theorem re.vp(L:re B P u v ul vl u0 u1 u2 v1 v2):P*B<=v:=by
 have h1:B*1<=B*v1:=aPQ _ L.v1p;have h2:P*B<=P*(v2+B*v1):=aPQ _ (by omega)
 have:=L.hv
 omega
theorem re.v0(L:re B P u v ul vl u0 u1 u2 v1 v2):0<v:=aNt (Nat.mul_pos L.Pp L.Bp) L.vp
theorem re.uX(L:re B P u v ul vl u0 u1 u2 v1 v2):u<P*(u2+B*(u0*B+u1)+1):=by have h1:=L.hu;have h2:=L.ulP;rw[aPe P _ 1,aPV];omega
theorem re.vW(L:re B P u v ul vl u0 u1 u2 v1 v2):v<P*(v2+B*v1+1):=by have h1:=L.hv;have h2:=L.vlP;rw[aPe P _ 1,aPV];omega
theorem re.u0v(L:re B P u v ul vl u0 u1 u2 v1 v2):u0<=v1:=by
 have h1:u<B*(P*(v2+B*v1+1)):=aNt L.lt (aPQ _ (Nat.le_of_lt L.vW));have h2:P*(u2+B*(u0*B+u1))<=u:=by have:=L.hu;omega
 have h3:P*(B*(u0*B))<P*(B*(v2+B*v1+1)):=by
  have:P*(B*(u0*B))<=P*(u2+B*(u0*B+u1)):=aPQ _ (by rw[aPe];omega)
  have e:B*(P*(v2+B*v1+1))=P*(B*(v2+B*v1+1)):=by ac_rfl
  omega
 have h4:=oU (oU h3);have h5:v2+B*v1+1<=B*(v1+1):=by have:=L.v2B;rw[aPe];omega
 have h6:B*u0<B*(v1+1):=by rw[aPT B u0];omega
 have:=oU h6
 omega
theorem re.first(L:re B P u v ul vl u0 u1 u2 v1 v2):u/v<=(u0*B+u1)/v1:=by
 rw[Nat.le_div_iff_mul_le L.v1p];have h1:u/v*v<=u:=aRb u v;generalize u/v=q at h1;have h2:P*(B*(q*v1))<=q*v:=by
  have e:P*(B*(q*v1))=q*(P*(B*v1)):=by ac_rfl
  rw[e];refine aPQ _ ?_
  have:=L.hv
  rw[aPe]at this;omega
 have h3:=L.uX;have h4:P*(B*(q*v1))<P*(B*(u0*B+u1+1)):=by
  refine aQQ h2 (aQQ h1 (aNt h3 (aPQ _ ?_)))
  have:=L.u2B
  rw[aPe B _ 1];omega
 have:=oU (oU h4)
 omega
theorem re.ltB(L:re B P u v ul vl u0 u1 u2 v1 v2):u/v<B:=aRl (by rw[aPT];exact L.lt)
theorem re.step(L:re B P u v ul vl u0 u1 u2 v1 v2){q rest:Nat}(hq:q*v1+rest=u0*B+u1)(hle:u/v<=q)(hc:q*v2>rest*B+u2):u/v<=q-1:=by
 by_cases he:u/v=q
 ·exfalso;have h1:u/v*v<=u:=aRb u v;rw[he]at h1;have h2:P*(q*(v2+B*v1))<P*(u2+B*(u0*B+u1)+1):=by
   refine aQQ ?_ L.uX;refine aNm ?_ h1;have e:P*(q*(v2+B*v1))=q*(P*(v2+B*v1)):=by ac_rfl
   rw[e];exact aPQ _ (by have:=L.hv;omega)
  have h3:=oU h2;rw[<-hq]at h3;have e1:q*(v2+B*v1)=q*v2+B*(q*v1):=by rw[aPe];congr 1;ac_rfl
  have e2:B*(q*v1+rest)=B*(q*v1)+rest*B:=by rw[aPe];congr 1;ac_rfl
  omega
 ·omega
theorem re.last(L:re B P u v ul vl u0 u1 u2 v1 v2){q rest:Nat}(hq:q*v1+rest=u0*B+u1)(hc:rest≥B∨(q<B/\q*v2<=rest*B+u2)):q<B/\q*v<=u+v:=by
 have hqB:q<B:=by
  rcases hc with h|h
  ·have h1:=L.u0v;have h2:u0*B<=v1*B:=aLL _ h1;have h3:v1*q<v1*B:=by have:=L.u1B;rw[aPT v1 q];omega
   exact oU h3
  ·exact h.1
 refine⟨hqB,?_⟩;have h1:q*v<=q*(P*(v2+B*v1+1)):=aPQ _ (Nat.le_of_lt L.vW);have e1:q*(P*(v2+B*v1+1))=P*(q*v2+B*(q*v1)+q):=by
  rw[show q*(P*(v2+B*v1+1))=P*(q*(v2+B*v1+1))by ac_rfl,aPe q,aPe q,aPV];congr 3;ac_rfl
 have hu:=L.hu;rcases hc with h|h
 ·have h2:q*v2+B*(q*v1)+q<=u2+B*(u0*B+u1):=by
   have h3:q*v2<=q*(B-1):=aPQ _ (by have:=L.v2B;omega);have h4:q*(B-1)+q=q*B:=by rw[<-Nat.mul_succ];congr 1;omega
   have h5:B*(q*v1)+B*rest=B*(u0*B+u1):=by rw[<-aPe,hq]
   have h6:q*B<=B*rest:=by rw[aPT];exact aPQ _ (by omega)
   omega
  have h3:=aPQ P h2;omega
 ·have h5:B*(q*v1)+rest*B=B*(u0*B+u1):=by rw[<-hq,aPe,aPT rest B]
  have h2:q*v2+B*(q*v1)+q<=u2+B*(u0*B+u1)+B:=by omega
  have h3:=aPQ P h2;rw[aPe P _ B]at h3;have h4:=L.vp;omega
theorem Vd{P X Y:Int}{k:Int}(hX0:0<=X)(hX:X<P)(hY0:0<=Y)(hY:Y<P)(h:X+P*k=Y):k=0:=by
 have hP:0<P:=by omega
 rcases Int.lt_trichotomy k 0 with hk|hk|hk
 ·have:P*k<=P*(-1):=aQX (by omega) (by omega)
  omega
 ·exact hk
 ·have:P*1<=P*k:=aQX (by omega) (by omega)
  omega
theorem aeu{X W v u q P c:Nat}{t:Int}(hX:X<P)(hv:v<P)(hW:W<P)(ht:t<0)(hc:c<=1)(hq:0<q)(D6:(W:Int)+(q:Int)*(v:Int)+(P:Int)*t=(u:Int))(hvx:X+P*c=W+v)(hle:q*v<=u+v):
  t= -1/\c=1/\X+(q-1)*v=u/\X<v:=by
 have h1:(X:Int)+(P:Int)*(c:Int)=(W:Int)+(v:Int):=by rw[<-aPN];omega
 have h2:(q:Int)*(v:Int)=((q*v:Nat):Int):=(aPN _ _).symm;have hY:(X:Int)+(P:Int)*(t+c)=(u:Int)+(v:Int)-(q:Int)*(v:Int):=by rw[Int.mul_add];omega
 have h3:(P:Int)*t<=(P:Int)*(-1):=aQX (by omega) (by omega);have htc:t+c=0:=Vd (by omega) (Int.ofNat_lt.2 hX) (by omega) (by omega) hY;have Aa:t= -1:=by omega
 have vL:c=1:=by omega
 subst Aa;subst vL;have h4:(q-1)*v+v=q*v:=by rw[<-Nat.succ_mul];congr 1;omega
 have h5:(P:Int)*(-1+((1:Nat):Int))=0:=by rw[show(-1+((1:Nat):Int))=0 by decide,Int.mul_zero]
 rw[h5]at hY;exact⟨rfl,rfl,by omega,by omega⟩
theorem YK{P X W V c w d:Nat}(hv:X+P*c=W+V):X+P*((c+(w+d))%4294967296)+P*4294967296*((c+(w+d))/4294967296)=W+P*w+(V+P*d):=by
 have e2:P*((c+(w+d))%4294967296)+P*4294967296*((c+(w+d))/4294967296)=P*c+(P*w+P*d):=by rw[aPv,<-aPe,aPH,aPe,aPe]
 omega
theorem Ni{P X U V c b q d w r b':Nat}(hv:X+q*V=U+P*(c+b))(h:w+4294967296*b'=r+b+(c+q*d)%4294967296):X+P*r+q*(V+P*d)=U+P*w+P*4294967296*((c+q*d)/4294967296+b'):=by
 have e1:q*(V+P*d)=q*V+P*(q*d):=by rw[aPe];congr 1;ac_rfl
 have e2:c+q*d=(c+q*d)%4294967296+4294967296*((c+q*d)/4294967296):=(aPH _ _).symm;generalize hm:(c+q*d)%4294967296=m at*;generalize hk:(c+q*d)/4294967296=k at*;have e3:P*(c+q*d)=P*(m+4294967296*k):=by rw[<-e2]
 have e4:P*(w+4294967296*b')=P*(r+b+m):=by rw[h]
 have e5:P*4294967296*(k+b')=P*(4294967296*k)+P*(4294967296*b'):=by rw[aPv,<-aPe,<-aPe]
 rw[aPe]at e3 e4 hv;rw[aPe]at e3 e4;rw[aPe]at e4;omega
theorem aby{P X U v c b q u0 t:Nat}(hv:X+q*v=U+P*(c+b))(ht:u0=t+b+c):X+P*t+q*v=U+P*u0:=by subst ht;rw[aPe,aPe];rw[aPe]at hv;omega
theorem agJ{P X U v k q:Nat}(hX:X<P)(hk:0<k)(hv:X+q*v=U+P*k):0<q:=by
 refine aQ1 fun e=>?_
 subst e
 have:P*1<=P*k:=aPQ _ hk
 omega
theorem Wg{P X U v c b q u0:Nat}{t:Int}(hv:X+q*v=U+P*(c+b))(ht:t=(u0:Int)-b-c):(X:Int)+(q:Int)*(v:Int)+(P:Int)*t=((U+P*u0:Nat):Int):=by
 subst ht;have h1:((X+q*v:Nat):Int)=((U+P*(c+b):Nat):Int):=by rw[hv]
 simp only[aPD,aPN]at h1⊢;rw[Int.mul_sub,Int.mul_sub];rw[Int.mul_add]at h1;omega
end Dv.b7
namespace Go.Proofs.YtblnjkjjedanaaaGreatDoor
open Go Dv Dv.b7
variable{E:Env}[C:Ctx E]
def sh(U:List Nat)(off k:Nat):Nat:=val ((U.drop off).take k)
theorem mR{U:List Nat}{off k:Nat}(h:off+k<U.length):sh U off (k+1)=sh U off k+4294967296^k*U.getD (off+k) 0:=by unfold sh;rw[cJ (by rw[aQ6];omega)];congr 2;rw[aPn,aK7,aPn]
theorem FX{U:List Nat}{off k j d:Nat}(h:off+k<=j):sh (U.set j d) off k=sh U off k:=by unfold sh;rw[List.drop_set,if_neg (by omega),aPR (by omega)]
theorem mi{U:List Nat}{off k d:Nat}(h:off+k<U.length):sh (U.set (off+k) d) off (k+1)=sh U off k+4294967296^k*d:=by rw[mR (by simpa using h),FX (aKR _),aPn,aNl h];rfl
theorem JV{U:List Nat}(h:∀d∈U,d<4294967296){off k:Nat}:sh U off k<4294967296^k:=by
 unfold sh;refine aNt (oQ fun d hd=>h d (List.mem_of_mem_drop (aPO hd))) ?_;exact aQT (by omega) (by rw[aMo];omega)
theorem tk{l:List Nat}:val (l.take l.length)=val l:=by rw[aQV]
theorem qU{z:Int}:aX .u32 z=z%4294967296:=by
 show IntKind.u32.wrap _=_
 rw[IntKind.wrap_u32]
theorem qW{U:List Nat}{j k d:Nat}(h:j≠k):(U.set j d).getD k 0=U.getD k 0:=by rw[aPn,aNh h,aPn]
theorem X7{U:List Nat}{j d:Nat}(h:j<U.length):(U.set j d).getD j 0=d:=by rw[aPn,aNl h];rfl
theorem adv{U Vl:List Nat}{off n:Nat}(hn:Vl.length=n+2)(hU:off+(n+2)<U.length)(Pz:∀d∈U,d<4294967296)(hVd:∀d∈Vl,d<4294967296)(hv1:0<Vl.getD (n+1) 0)(iH:sh U off (n+3)<4294967296*val Vl):
  re 4294967296 (4294967296^n) (sh U off (n+3)) (val Vl) (sh U off n) (val (Vl.take n)) (U.getD (off+(n+2)) 0) (U.getD (off+(n+1)) 0) (U.getD (off+n) 0) (Vl.getD (n+1) 0) (Vl.getD n 0):=by
 refine⟨?_,?_,JV Pz,?_,gY Pz,gY Pz,gY hVd,hv1,iH⟩
 ·rw[mR (by omega),mR (by omega),mR (by omega)];simp only[aPA];generalize 4294967296^n=P;rw[aPe,aPe,aPe];have e1:P*(4294967296*(U.getD (off+(n+2)) 0*4294967296))=P*4294967296*4294967296*U.getD (off+(n+2)) 0:=by ac_rfl
  have e2:P*(4294967296*U.getD (off+(n+1)) 0)=P*4294967296*U.getD (off+(n+1)) 0:=by ac_rfl
  omega
 ·have h1:=tk (l:=Vl);rw[hn,cJ (by omega),cJ (by omega)]at h1;simp only[aPA]at h1;rw[<-h1];generalize 4294967296^n=P;rw[aPe];have e2:P*(4294967296*Vl.getD (n+1) 0)=P*4294967296*Vl.getD (n+1) 0:=by ac_rfl
  omega
 ·have:=oQ (l:=Vl.take n) fun d hd=>hVd d (aPO hd)
  rwa[aMo,aPM (by omega)]at this
def Hc:Nat->Code->Code
 |0,c=>c
 |n+1,.seq _ b=>Hc n b
 |_+1,c=>c
def Jh:Code->Code
 |.seq a _=>a
 |c=>c
noncomputable def WE:Code:=Hc 5 xi
noncomputable def Z9:Code:=Hc 10 xi
theorem acN:xi=.seq (Jh xi) (.seq (Jh (Hc 1 xi)) (.seq (Jh (Hc 2 xi)) (.seq (Jh (Hc 3 xi)) (.seq (Jh (Hc 4 xi)) WE)))):=by kernel_rfl
theorem YB:WE=.seq (Jh (Hc 5 xi)) (.seq (Jh (Hc 6 xi)) (.seq (Jh (Hc 7 xi)) (.seq (Jh (Hc 8 xi)) (.seq (Jh (Hc 9 xi)) Z9)))):=by kernel_rfl
def adD(U Vl:List Nat)(off n:Nat)(H1:Hp)(r:AV)(H':Hp):Prop:=∃q U',r=.int .u32 (q:Nat)/\H'=.cells .live (cM U')::H1/\q<4294967296/\U'.length=U.length/\(∀d∈U',d<4294967296)/\(∀j,(j<off∨off+(n+3)<=j)->U'.getD j 0=U.getD j 0)/\sh U' off (n+3)+q*val Vl=sh U off (n+3)/\sh U' off (n+3)<val Vl
theorem aad{vv:AV}{U Vl W:List Nat}{off n kc q:Nat}{H1:Hp}{t:Int}(hV:fN vv Vl)(hn:Vl.length=n+2)(Mf:n<10000000000)(hU:off+(n+3)<=U.length)(hUl:U.length<20000000000)
  (hW:W.length=U.length) (hWd:∀d∈W,d<4294967296) (hWo:∀j,(j<off∨off+(n+3)<=j)->W.getD j 0=U.getD j 0) (ht:t<0) (Ie: -4294967296<=t) (hWn:(W.getD (off+(n+2)) 0:Int)=t%4294967296) (V9:0<q) (hq:q<4294967296)
  (D6:(sh W off (n+2):Int)+(q:Int)*(val Vl:Int)+((4294967296^(n+2):Nat):Int)*t=(sh U off (n+3):Int)) (hle:q*val Vl<=sh U off (n+3)+val Vl)
  {ts:List AV} (hl:ts.length=173) (g0:gt ts 0=.aI 0 off (n+3) 1 kc) (g1:gt ts 1=vv) (g5:gt ts 5=.int .i64 ((n+2:Nat):Int)) (g7:gt ts 7=.int .u64 (q:Nat)):
  V E Z9 ts (.cells .live (cM W)::H1) (wN E [.tmp 4] (adD U Vl off n H1)):=by
 have T:=jb C.toOver;unfold Z9;refine VS ?_
 dsimp only[Hc,Jh,xi,Tryz.f179]
 simp only[↓aN,lf,aJ,aa,ae,jS,hl,g1,iC hV];refine ft (fun k_ ts H=>∃i X c,k_=(n+2)-i/\ts.length=173/\gt ts 0=.aI 0 off (n+3) 1 kc/\gt ts 1=vv/\gt ts 5=.int .i64 ((n+2:Nat):Int)/\gt ts 7=.int .u64 (q:Nat)/\gt ts 9=.int .u64 (c:Nat)/\gt ts 137=vv/\gt ts 138=.int .i64 ((n+2:Nat):Int)/\gt ts 139=.int .i64 (i:Nat)/\H=.cells .live (cM X)::H1/\(i<=n+2)/\(X.length=U.length)/\(∀d∈X,d<4294967296)/\(∀j,(j<off∨off+i<=j)->X.getD j 0=W.getD j 0)/\(c<=1)/\(sh X off i+4294967296^i*c=sh W off i+val (Vl.take i))) (n+2) ?_ ?_
 rotate_left
 ·refine⟨0,W,0,(by first|omega|rfl|(simp;done)),(by simp only[cP,hl]),?_⟩;simp only[cR,hl,aa,ae,g0,g1,g5,g7,hn]
  iterate 9 refine⟨by first|trivial|rfl|(congr 1;omega)|(simp;done)|(simp;omega),?_⟩
  refine⟨?_,?_,?_,?_,?_,?_⟩
  ·omega
  ·exact hW
  ·exact hWd
  ·intro j _;first|trivial|rfl
  ·omega
  ·simp[sh,val]
 clear hl g0 g1 g5 g7 ts;rintro k_ ts H ⟨i,X,c,rfl,hl,g0,g1,g5,g7,g9,arR,ah6,anC,rfl,hi,hX,hXd,hXo,hc,hv⟩;refine VS ?_;by_cases hin:i<n+2
 ·have sk:decide ((i:Int)<((n+2:Nat):Int))=true:=b8 (by omega);have ixv:=k8 T hV (k:=.i64) (z:=(i:Int)) (by omega) (by omega);rw[aPh]at ixv;have ldv:=il (out:=Vl) (j:=i) (by omega);have aha:=gY hV.1 (i:=i);have hvt:=cJ (l:=Vl) (i:=i) (by omega);generalize hd:Vl.getD i 0=d at ldv aha hvt;have c1:((i:Int)<((n+3:Nat):Int))=True:=eq_true (by omega);have kO:off+i<X.length:=by omega
  have LK:=il kO;rw[hXo _ (.inr (aKR _))]at LK;have Y0:=gY hWd (i:=off+i);have Vv:=mR (U:=W) (off:=off) (k:=i) (by omega);generalize hw:W.getD (off+i) 0=w at LK Y0 Vv;have w1:aX .u64 (d:Int)=d:=wrap_u64 (by omega);have w2:aX .u64 (w:Int)=w:=wrap_u64 (by omega);have w3:aX .u64 ((w:Int)+(d:Int))=((w+d:Nat):Int):=by rw[<-aPD];exact wrap_u64 (by omega)
  have w4:aX .u64 ((c:Int)+((w+d:Nat):Int))=((c+(w+d):Nat):Int):=by rw[<-aPD];exact wrap_u64 (by omega)
  have w5:aX .i64 ((i:Int)+1)=((i+1:Nat):Int):=by rw[wrap_i64 (by omega) (by omega)];simp
  have fZ:=fun z H=>sY (H:=H) (z:=z) kO
  simp only[↓aN,lf,aJ,↓reduceIte,aa,ae,nO,cQ,↓iM jT iB,↓iM iB jT,hl,g0,g9,arR,ah6,anC,sk,ixv,ldv,LK,c1,w1,w2,w3,w4,w5,fZ,fq,ga,lR,wrap_u32,AV.cells];refine dG ?_;refine⟨_,?_,i+1,X.set (off+i) ((c+(w+d))%4294967296),(c+(w+d))/4294967296,rfl,(by simp only[cP,hl]),?_⟩
  ·first|omega|(simp;omega)
  simp only[cR,hl,aa,ae,g0,g1,g5,g7,arR,ah6]
  iterate 9 refine⟨by first|trivial|rfl|(congr 1;omega)|(simp;done)|(simp;omega),?_⟩
  refine⟨?_,?_,?_,?_,?_,?_⟩
  ·omega
  ·simpa using hX
  ·exact dL hXd (aQU _ (by decide))
  ·intro j hj;rw[qW (by omega)];exact hXo j (by omega)
  ·omega
  ·rw[mi kO,Vv,hvt,aPA];exact YK hv
 ·have sk:decide ((i:Int)<((n+2:Nat):Int))=false:=cg (by omega);obtain rfl:i=n+2:=by omega
  have c1:(((n+2:Nat):Int)<((n+3:Nat):Int))=True:=eq_true (by omega);have kO:off+(n+2)<X.length:=by omega
  have LK:=il kO;rw[hXo _ (.inr (aKR _))]at LK;have hvV:val (Vl.take (n+2))=val Vl:=by rw[<-hn,aQV]
  rw[hvV]at hv;have hVB:val Vl<4294967296^(n+2):=by have:=oQ hV.1;rwa[hn]at this
  have azE:=JV hXd (off:=off) (k:=n+2);have ayz:=JV hWd (off:=off) (k:=n+2);obtain⟨rfl,rfl,apL,aoO⟩:=aeu azE hVB ayz ht hc V9 D6 hv hle;have azD:W.getD (off+(n+2)) 0=4294967295:=by
   have:(-1:Int)%4294967296=4294967295:=by decide
   omega
  rw[azD]at LK;have w1:aX .u32 1=1:=by rw[qU];decide
  have w2:aX .u32 (4294967295+1)=0:=by rw[qU];decide
  have w3:aX .u64 ((q:Int)-1)=((q-1:Nat):Int):=by rw[show(q:Int)-1=((q-1:Nat):Int)by omega];exact wrap_u64 (by omega)
  have fZ:∀H,mK 1 [.int .u32 0] (.cells .live (cM X)::H) 0 (off+(n+2))=some (.cells .live (cM (X.set (off+(n+2)) 0))):=fun H=>sY (z:=0) kO
  simp only[↓aN,lf,aJ,↓reduceIte,aa,ae,cQ,↓iM jT iB,hl,g0,g5,g7,g9,ah6,anC,sk,c1,LK,w1,w2,w3,fZ,fq,ga,wrap_u32,AV.cells];refine⟨q-1,X.set (off+(n+2)) 0,?_,rfl,by omega,by simpa using hX,dL hXd (by decide),?_,?_,?_⟩
  ·rw[aPz (by omega)]
  ·intro j hj;rw[qW (by omega),hXo j (by omega)];exact hWo j hj
  ·rw[mi kO,aPL,aQZ];exact apL
  ·rw[mi kO,aPL,aQZ];exact aoO
theorem qN{n:Nat}(h:n<=9223372036854775807):aX .i64 (n:Int)=n:=wrap_i64 (by omega) (by omega)
theorem sub_neg{w b m:Nat}(hw:w<4294967296)(hb:b<=1)(hm:m<4294967296)(h:(w:Int)-(b:Int)-(m:Int)<0):aX .u32 ((w:Int)-(b:Int)-(m:Int))=((w+4294967296-b-m:Nat):Int)/\w+4294967296-b-m<4294967296/\w+4294967296*1=w+4294967296-b-m+b+m:=by
 have e:((w+4294967296-b-m:Nat):Int)=(w:Int)-(b:Int)-(m:Int)+4294967296:=by omega
 refine⟨?_,by omega,by omega⟩;rw[qU,e,<-Int.add_emod_right,aRq (by omega) (by omega)]
theorem LU{w b m:Nat}(hw:w<4294967296)(h:¬(w:Int)-(b:Int)-(m:Int)<0):aX .u32 ((w:Int)-(b:Int)-(m:Int))=((w-b-m:Nat):Int)/\w-b-m<4294967296/\w+4294967296*0=w-b-m+b+m:=by
 have e:((w-b-m:Nat):Int)=(w:Int)-(b:Int)-(m:Int):=by omega
 refine⟨?_,by omega,by omega⟩;rw[qU,e,aRq (by omega) (by omega)]
theorem ac8{vv:AV}{U Vl:List Nat}{off n kc q:Nat}{H1:Hp}(hV:fN vv Vl)(hn:Vl.length=n+2)(Mf:n<10000000000)(hU:off+(n+3)<=U.length)(hUl:U.length<20000000000)
  (Pz:∀d∈U,d<4294967296) (hq:q<4294967296) (hup:sh U off (n+3)<(q+1)*val Vl) (hle:q*val Vl<=sh U off (n+3)+val Vl)
  {ts:List AV} (hl:ts.length=173) (g0:gt ts 0=.aI 0 off (n+3) 1 kc) (g1:gt ts 1=vv) (g5:gt ts 5=.int .i64 ((n+2:Nat):Int)) (g7:gt ts 7=.int .u64 (q:Nat)):
  V E WE ts (.cells .live (cM U)::H1) (wN E [.tmp 4] (adD U Vl off n H1)):=by
 have T:=jb C.toOver;rw[YB];refine VS ?_
 dsimp only[Hc,Jh,xi,Tryz.f179]
 simp only[↓aN,lf,aJ,aa,ae,jS,hl,g1,iC hV];refine ft (fun k_ ts H=>∃i X c b,k_=(n+2)-i/\ts.length=173/\gt ts 0=.aI 0 off (n+3) 1 kc/\gt ts 1=vv/\gt ts 5=.int .i64 ((n+2:Nat):Int)/\gt ts 7=.int .u64 (q:Nat)/\gt ts 9=.int .u64 (c:Nat)/\gt ts 10=.int .i64 (b:Nat)/\gt ts 84=vv/\gt ts 85=.int .i64 ((n+2:Nat):Int)/\gt ts 86=.int .i64 (i:Nat)/\H=.cells .live (cM X)::H1/\(i<=n+2)/\(X.length=U.length)/\(∀d∈X,d<4294967296)/\(∀j,(j<off∨off+i<=j)->X.getD j 0=U.getD j 0)/\(c<4294967296)/\(b<=1)/\(sh X off i+q*val (Vl.take i)=sh U off i+4294967296^i*(c+b))) (n+2) ?_ ?_
 rotate_left
 ·refine⟨0,U,0,0,(by first|omega|rfl|(simp;done)),(by simp only[cP,hl]),?_⟩;simp only[cR,hl,aa,ae,g0,g1,g5,g7,hn]
  iterate 10 refine⟨by first|trivial|rfl|(congr 1;omega)|(simp;done)|(simp;omega),?_⟩
  refine⟨?_,?_,?_,?_,?_,?_,?_⟩
  ·omega
  ·first|trivial|rfl
  ·exact Pz
  ·intro j _;first|trivial|rfl
  ·first|trivial|omega
  ·first|trivial|omega
  ·simp[sh,val]
 clear hl g0 g1 g5 g7 ts;rintro k_ ts H ⟨i,X,c,b,rfl,hl,g0,g1,g5,g7,g9,g10,g84,g85,g86,rfl,hi,hX,hXd,hXo,hc,hb,hv⟩;refine VS ?_;by_cases hin:i<n+2
 ·have sk:decide ((i:Int)<((n+2:Nat):Int))=true:=b8 (by omega);have ixv:=k8 T hV (k:=.i64) (z:=(i:Int)) (by omega) (by omega);rw[aPh]at ixv;have ldv:=il (out:=Vl) (j:=i) (by omega);have aha:=gY hV.1 (i:=i);have hvt:=cJ (l:=Vl) (i:=i) (by omega);generalize hd:Vl.getD i 0=d at ldv aha hvt;have c1:((i:Int)<((n+3:Nat):Int))=True:=eq_true (by omega);have kO:off+i<X.length:=by omega
  have LK:=il kO;rw[hXo _ (.inr (aKR _))]at LK;have Y0:=gY Pz (i:=off+i);have Vv:=mR (U:=U) (off:=off) (k:=i) (by omega);generalize hw:U.getD (off+i) 0=w at LK Y0 Vv;have hqd:q*d<=4294967295*4294967295:=aQY (by omega) (by omega);have w1:aX .u64 (d:Int)=d:=wrap_u64 (by omega);have w2:aX .u64 ((q:Int)*(d:Int))=((q*d:Nat):Int):=by rw[<-aPN];exact wrap_u64 (by omega)
  obtain⟨s,hs⟩:∃s,s=c+q*d:=⟨_,rfl⟩;obtain⟨m,hm⟩:∃m,m=s%4294967296:=⟨_,rfl⟩;obtain⟨k',zz⟩:∃k',k'=s/4294967296:=⟨_,rfl⟩;have agB:m<4294967296:=by rw[hm];exact aQU _ (by decide)
  have al9:k'<4294967296:=by rw[zz,hs];omega
  have w3:aX .u64 ((c:Int)+((q*d:Nat):Int))=(s:Int):=by rw[hs,<-aPD];exact wrap_u64 (by omega)
  have w3m:aX .u32 (s:Int)=(m:Int):=by rw[hm];exact wrap_u32
  have ael:∀{cc:Bool} {t:Nat} {kk:IntKind},dC E cc .shr t (.int .u64 (s:Int)) (.int kk 32)=some (.int .u64 (k':Int)):=by intro cc t kk;rw[zz];exact lR
  have w4:aX .i64 (w:Int)=w:=qN (by omega);have w5:aX .i64 (m:Int)=m:=qN (by omega);obtain⟨t1,Aa⟩:∃t1:Int,t1=(w:Int)-(b:Int):=⟨_,rfl⟩;obtain⟨t2,zy⟩:∃t2:Int,t2=t1-(m:Int):=⟨_,rfl⟩;have w6:aX .i64 ((w:Int)-(b:Int))=t1:=by rw[Aa];exact wrap_i64 (by omega) (by omega)
  have w7:aX .i64 (t1-(m:Int))=t2:=by rw[zy];exact wrap_i64 (by omega) (by omega)
  have w8:aX .i64 ((i:Int)+1)=((i+1:Nat):Int):=by rw[wrap_i64 (by omega) (by omega)];simp
  have fZ:=fun z H=>sY (H:=H) (z:=z) kO
  by_cases tq:t2<0
  ·have hdn:decide (t2<0)=true:=b8 tq;obtain⟨r,w9,Qv,Ln⟩:∃r:Nat,aX .u32 t2=(r:Int)/\r<4294967296/\w+4294967296*1=r+b+m:=by refine⟨w+4294967296-b-m,?_⟩;rw[zy,Aa];exact sub_neg Y0 hb agB (by omega)
   simp only[↓aN,lf,aJ,↓reduceIte,aa,ae,nO,cQ,↓iM jT iB,↓iM iB jT,↓iM iB kd2,↓iM kd2 iB,hl,g0,g7,g9,g10,g84,g85,g86,sk,ixv,ldv,LK,c1,w1,w2,w3,w3m,ael,w4,w5,w6,w7,w8,w9,hdn,fZ,fq,ga,AV.cells];refine dG ?_;refine⟨_,?_,i+1,X.set (off+i) r,k',1,rfl,(by simp only[cP,hl]),?_⟩
   ·first|omega|(simp;omega)
   simp only[cR,hl,aa,ae,g0,g1,g5,g7,g84,g85]
   iterate 10 refine⟨by first|trivial|rfl|(congr 1;omega)|(simp;done)|(simp;omega),?_⟩
   refine⟨?_,?_,?_,?_,?_,?_,?_⟩
   ·omega
   ·simpa using hX
   ·exact dL hXd Qv
   ·intro j hj;rw[qW (by omega)];exact hXo j (by omega)
   ·exact al9
   ·omega
   ·rw[mi kO,Vv,hvt,aPA,zz,hs];rw[hm,hs]at Ln;exact Ni hv Ln
  ·have hdn:decide (t2<0)=false:=cg tq;obtain⟨r,w9,Qv,Ln⟩:∃r:Nat,aX .u32 t2=(r:Int)/\r<4294967296/\w+4294967296*0=r+b+m:=by refine⟨w-b-m,?_⟩;rw[zy,Aa];exact LU Y0 (by omega)
   simp only[↓aN,lf,aJ,↓reduceIte,aa,ae,nO,cQ,↓iM jT iB,↓iM iB jT,↓iM iB kd2,↓iM kd2 iB,hl,g0,g7,g9,g10,g84,g85,g86,sk,ixv,ldv,LK,c1,w1,w2,w3,w3m,ael,w4,w5,w6,w7,w8,w9,hdn,fZ,fq,ga,AV.cells];refine dG ?_;refine⟨_,?_,i+1,X.set (off+i) r,k',0,rfl,(by simp only[cP,hl]),?_⟩
   ·first|omega|(simp;omega)
   simp only[cR,hl,aa,ae,g0,g1,g5,g7,g84,g85]
   iterate 10 refine⟨by first|trivial|rfl|(congr 1;omega)|(simp;done)|(simp;omega),?_⟩
   refine⟨?_,?_,?_,?_,?_,?_,?_⟩
   ·omega
   ·simpa using hX
   ·exact dL hXd Qv
   ·intro j hj;rw[qW (by omega)];exact hXo j (by omega)
   ·exact al9
   ·omega
   ·rw[mi kO,Vv,hvt,aPA,zz,hs];rw[hm,hs]at Ln;exact Ni hv Ln
 ·have sk:decide ((i:Int)<((n+2:Nat):Int))=false:=cg (by omega);obtain rfl:i=n+2:=by omega
  have c1:(((n+2:Nat):Int)<((n+3:Nat):Int))=True:=eq_true (by omega);have kO:off+(n+2)<X.length:=by omega
  have LK:=il kO;rw[hXo _ (.inr (aKR _))]at LK;have hvV:val (Vl.take (n+2))=val Vl:=by rw[<-hn,aQV]
  rw[hvV]at hv;have hu0:=gY Pz (i:=off+(n+2));have Vv:=mR (U:=U) (off:=off) (k:=n+2) (by omega);generalize hw:U.getD (off+(n+2)) 0=u0 at LK hu0 Vv;have w1:aX .i64 (u0:Int)=u0:=qN (by omega);have w2:aX .i64 (c:Int)=c:=qN (by omega);obtain⟨t1,Aa⟩:∃t1:Int,t1=(u0:Int)-(b:Int):=⟨_,rfl⟩;obtain⟨t2,zy⟩:∃t2:Int,t2=t1-(c:Int):=⟨_,rfl⟩;have w3:aX .i64 ((u0:Int)-(b:Int))=t1:=by rw[Aa];exact wrap_i64 (by omega) (by omega)
  have w4:aX .i64 (t1-(c:Int))=t2:=by rw[zy];exact wrap_i64 (by omega) (by omega)
  have fZ:=fun z H=>sY (H:=H) (z:=z) kO
  by_cases tq:t2<0
  ·have hdn:decide (t2≥0)=false:=cg (by omega);obtain⟨r,hr,Qv⟩:∃r:Nat,(r:Int)=t2%4294967296/\r<4294967296:=⟨(t2%4294967296).toNat,by omega,by omega⟩;have w5:aX .u32 t2=(r:Int):=by rw[qU,hr]
   have V9:0<q:=agJ (JV hXd) (show 0<c+b by omega) hv;simp only[↓aN,lf,aJ,↓reduceIte,aa,ae,cQ,↓iM jT kd2,↓iM iB kd2,↓iM kd2 iB,hl,g0,g5,g9,g10,g85,g86,sk,LK,c1,w1,w2,w3,w4,w5,hdn,fZ,fq,ga,AV.cells];refine aad (kc:=kc) (W:=X.set (off+(n+2)) r) (t:=t2) hV hn Mf hU hUl (by simpa using hX) (dL hXd Qv) ?_ tq (by omega) ?_ V9 hq ?_ hle (by simp only[cP,hl]) ?_ ?_ ?_ ?_
   ·intro j hj;rw[qW (by omega)];exact hXo j (by omega)
   ·rw[X7 kO];exact hr
   ·rw[FX (aKR _),Vv];exact Wg hv (by rw[zy,Aa])
   all_goals simp only[cR,ae,g0,g1,g5,g7]
  ·have hdn:decide (t2≥0)=true:=b8 (by omega);obtain⟨r,w5,Qv,Ln⟩:∃r:Nat,aX .u32 t2=(r:Int)/\r<4294967296/\u0+4294967296*0=r+b+c:=by refine⟨u0-b-c,?_⟩;rw[zy,Aa];exact LU hu0 (by omega)
   have wq:aX .u32 (q:Int)=(q:Int):=by rw[wrap_u32,aPz hq]
   simp only[↓aN,lf,aJ,↓reduceIte,aa,ae,cQ,↓iM jT iB,↓iM jT kd2,↓iM iB kd2,↓iM kd2 iB,hl,g0,g5,g7,g9,g10,g85,g86,sk,LK,c1,w1,w2,w3,w4,w5,wq,hdn,fZ,fq,ga,AV.cells];have nW:=aby (u0:=u0) (t:=r) hv (by omega);rw[<-Vv,<-mi kO]at nW;refine⟨q,X.set (off+(n+2)) r,rfl,rfl,hq,by simpa using hX,dL hXd Qv,?_,nW,?_⟩
   ·intro j hj;rw[qW (by omega)];exact hXo j (by omega)
   ·have:(q+1)*val Vl=q*val Vl+val Vl:=by rw[aLS,aRh]
    show sh _ off (n+2+1)<_
    rw[show n+3=n+2+1 from rfl]at hup hle;omega
theorem L9{q v:Nat}(h:0<q):(q-1)*v+v=q*v:=by obtain⟨k,rfl⟩:=Nat.exists_eq_succ_of_ne_zero (Nat.ne_of_gt h);rw[Nat.succ_mul];rfl
theorem Rc{vv:AV}{U Vl:List Nat}{off n kc:Nat}{H1:Hp}(hV:fN vv Vl)(hn:Vl.length=n+2)(Mf:n<10000000000)(hU:off+(n+3)<=U.length)(hUl:U.length<20000000000)
  (Pz:∀d∈U,d<4294967296) (hv1:2147483648<=Vl.getD (n+1) 0) (iH:sh U off (n+3)<4294967296*val Vl):
  ∃r H',de E 179 [.aI 0 off (n+3) 1 kc,vv] (.cells .live (cM U)::H1)=some (r,H')/\adD U Vl off n H1 r H':=by
 refine gi2 (by rw[C.sj]) (by rw[C.fn];exact amX) (by decide) ?_;intro ts hl g0 g1;have T:=jb C.toOver;have L:=adv hn (by omega) Pz hV.1 (by omega) iH;have nW:∀(q:Nat) (ts:List AV),q<4294967296->sh U off (n+3)/val Vl<=q->q*val Vl<=sh U off (n+3)+val Vl->ts.length=173->gt ts 0=.aI 0 off (n+3) 1 kc->gt ts 1=vv->gt ts 5=.int .i64 ((n+2:Nat):Int)->gt ts 7=.int .u64 (q:Nat)->
   V E WE ts (.cells .live (cM U)::H1) (wN E [.tmp 4] (adD U Vl off n H1)):=by
  intro q ts hq Hx hle hl g0 g1 g5 g7;refine ac8 (kc:=kc) hV hn Mf hU hUl Pz hq ?_ hle hl g0 g1 g5 g7;have h1:=Nat.lt_mul_div_succ (sh U off (n+3)) L.v0;refine aNt h1 ?_;rw[aPT];exact aLL _ (by omega)
 rw[acN];generalize WE=D5 at nW
 dsimp only[Hc,Jh,xi,Tryz.f179]
 have adE:=k8 T hV (k:=.i64) (z:=((n+1:Nat):Int)) (by omega) (by omega);have aiF:=k8 T hV (k:=.i64) (z:=((n:Nat):Int)) (by omega) (by omega);rw[aPh]at adE aiF;have aje:=il (out:=Vl) (j:=n+1) (by omega);have ank:=il (out:=Vl) (j:=n) (by omega);have azv:=il (out:=U) (j:=off+(n+2)) (by omega);have avI:=il (out:=U) (j:=off+(n+1)) (by omega);have asa:=il (out:=U) (j:=off+n) (by omega);have bv1:=gY hV.1 (i:=n+1);have bv2:=gY hV.1 (i:=n);have Ly:=gY Pz (i:=off+(n+2));have NY:=gY Pz (i:=off+(n+1));have NC:=gY Pz (i:=off+n);generalize Vl.getD (n+1) 0=v1 at*;generalize Vl.getD n 0=v2 at*;generalize U.getD (off+(n+2)) 0=u0 at*;generalize U.getD (off+(n+1)) 0=u1 at*;generalize U.getD (off+n) 0=u2 at*;have c2:(((n+2:Nat):Int)<((n+3:Nat):Int))=True:=eq_true (by omega);have c1:(((n+1:Nat):Int)<((n+3:Nat):Int))=True:=eq_true (by omega);have c0:(((n:Nat):Int)<((n+3:Nat):Int))=True:=eq_true (by omega);have w1:aX .i64 (((n+2:Nat):Int)-1)=((n+1:Nat):Int):=by rw[wrap_i64 (by omega) (by omega)];omega
 have w2:aX .i64 (((n+2:Nat):Int)-2)=((n:Nat):Int):=by rw[wrap_i64 (by omega) (by omega)];omega
 have wv1:aX .u64 (v1:Int)=v1:=wrap_u64 (by omega);have wv2:aX .u64 (v2:Int)=v2:=wrap_u64 (by omega);have wu0:aX .u64 (u0:Int)=u0:=wrap_u64 (by omega);have wu1:aX .u64 (u1:Int)=u1:=wrap_u64 (by omega);have wu2:aX .u64 (u2:Int)=u2:=wrap_u64 (by omega);have azU:∀{cc:Bool} {t:Nat},dC E cc .or t (.int .u64 ((u0*4294967296:Nat):Int)) (.int .u64 (u1:Int))=some (.int .u64 ((u0*4294967296+u1:Nat):Int)):=by intro cc t;rw[KI (by omega) (by omega),Pk NY]
 have uF:v1≠0:=by omega
 have hdl:(u0*4294967296+u1)/v1<=u0*4294967296+u1:=aQ9 _ _;have wq:aX .u64 (((u0*4294967296+u1)/v1:Nat):Int)=(((u0*4294967296+u1)/v1:Nat):Int):=wrap_u64 (by omega);have ahN:=L.first;have Sv:=aRf (u0*4294967296+u1) v1;have Sf:=aQU (u0*4294967296+u1) (show 0<v1 by omega);simp only[↓aN,lf,aJ,↓reduceIte,aa,ah,ae,nO,jS,↓Fo iB jT,zB iB jT,hl,g0,g1,iC hV,hn,adE,aje,azv,avI,c1,c2,w1,wv1,wu0,wu1,wV Ly,azU,Sj uF,qH uF,wq,fq];refine ft (fun k_ ts H=>∃q rest,k_=8589934592-rest/\ts.length=173/\gt ts 0=.aI 0 off (n+3) 1 kc/\gt ts 1=vv/\gt ts 5=.int .i64 ((n+2:Nat):Int)/\gt ts 7=.int .u64 (q:Nat)/\gt ts 8=.int .u64 (rest:Nat)/\H=.cells .live (cM U)::H1/\(q*v1+rest=u0*4294967296+u1)/\(sh U off (n+3)/val Vl<=q)) (8589934592-(u0*4294967296+u1)%v1) ?_ ?_
 rotate_left
 ·refine⟨(u0*4294967296+u1)/v1,(u0*4294967296+u1)%v1,(by first|omega|rfl|(simp;done)),(by simp only[cP,hl]),?_⟩;simp only[cR,hl,aa,ae,g0,g1]
  iterate 6 refine⟨by first|trivial|rfl|(congr 1;omega)|(simp;done)|(simp;omega),?_⟩
  refine⟨?_,?_⟩
  ·rw[aPT];exact Sv
  ·exact ahN
 clear hl g0 g1 ts;rintro k_ ts H ⟨q,rest,rfl,hl,g0,g1,g5,g7,g8,rfl,hq,Hx⟩;refine VS ?_;have aGU:q<=u0*4294967296+u1:=by
  have:q*1<=q*v1:=aPQ _ (by omega)
  omega
 by_cases hr:rest<4294967296
 ·have dr:decide ((rest:Int)<4294967296)=true:=b8 (by omega);have wr:aX .u64 ((rest:Int)+(v1:Int))=((rest+v1:Nat):Int):=by rw[<-aPD];exact wrap_u64 (by omega)
  by_cases hqB:4294967296<=q
  ·have dq:decide ((q:Int)≥4294967296)=true:=b8 (by omega);have wq1:aX .u64 ((q:Int)-1)=((q-1:Nat):Int):=by rw[show(q:Int)-1=((q-1:Nat):Int)by omega];exact wrap_u64 (by omega)
   simp(maxSteps:=2000000)only[↓aN,lf,aJ,aa,ah,ae,nO,↓iM iB jT,zB iB jT,hl,g1,g5,g7,g8,dr,dq,w1,wv1,wr,wq1,adE,aje]
   refine dG ?_;refine⟨_,?_,q-1,rest+v1,rfl,(by simp only[cP,hl]),?_⟩
   ·first|omega|(simp;omega)
   simp only[cR,hl,aa,ae,g0,g1,g5]
   iterate 6 refine⟨by first|trivial|rfl|(congr 1;omega)|(simp;done)|(simp;omega),?_⟩
   refine⟨?_,?_⟩
   ·have:(q-1)*v1+v1=q*v1:=L9 (by omega)
    omega
   ·have:=L.ltB
    omega
  ·have dq:decide ((q:Int)≥4294967296)=false:=cg (by omega);have Tp:q*v2<=4294967295*4294967295:=aQY (by omega) (by omega);have wm:aX .u64 ((q:Int)*(v2:Int))=((q*v2:Nat):Int):=by rw[<-aPN];exact wrap_u64 (by omega)
   have aq8:∀{cc:Bool} {t:Nat},dC E cc .or t (.int .u64 ((rest*4294967296:Nat):Int)) (.int .u64 (u2:Int))=some (.int .u64 ((rest*4294967296+u2:Nat):Int)):=by intro cc t;rw[KI (by omega) (by omega),Pk NC]
   by_cases hc:q*v2>rest*4294967296+u2
   ·have dc:decide (((q*v2:Nat):Int)>((rest*4294967296+u2:Nat):Int))=true:=b8 (by omega);have V9:0<q:=aQ1 fun e=>by subst e;omega
    have wq1:aX .u64 ((q:Int)-1)=((q-1:Nat):Int):=by rw[show(q:Int)-1=((q-1:Nat):Int)by omega];exact wrap_u64 (by omega)
    simp(maxSteps:=2000000)only[↓aN,lf,aJ,↓reduceIte,aa,ah,ae,nO,↓Fo iB jT,↓iM iB jT,zB iB jT,hl,g0,g1,g5,g7,g8,dr,dq,dc,w1,w2,wv1,wv2,wu2,wm,wr,wq1,wV hr,aq8,adE,aiF,aje,ank,asa,c0,fq]
    refine dG ?_;refine⟨_,?_,q-1,rest+v1,rfl,(by simp only[cP,hl]),?_⟩
    ·first|omega|(simp;omega)
    simp only[cR,hl,aa,ae,g0,g1,g5]
    iterate 6 refine⟨by first|trivial|rfl|(congr 1;omega)|(simp;done)|(simp;omega),?_⟩
    refine⟨?_,?_⟩
    ·have:(q-1)*v1+v1=q*v1:=L9 (by omega)
     omega
    ·exact L.step hq Hx hc
   ·have dc:decide (((q*v2:Nat):Int)>((rest*4294967296+u2:Nat):Int))=false:=cg (by omega);obtain⟨l1,l2⟩:=L.last hq (.inr ⟨by omega,by omega⟩)
    simp(maxSteps:=2000000)only[↓aN,lf,aJ,↓reduceIte,aa,ah,ae,nO,↓Fo iB jT,zB iB jT,hl,g0,g1,g5,g7,g8,dr,dq,dc,w2,wv2,wu2,wm,wV hr,aq8,aiF,ank,asa,c0,fq]
    refine nW q _ l1 Hx l2 (by simp only[cP,hl]) ?_ ?_ ?_ ?_
    all_goals simp only[cR,ae,g0,g1,g5,g7]
 ·have dr:decide ((rest:Int)<4294967296)=false:=cg (by omega);obtain⟨l1,l2⟩:=L.last hq (.inl (by omega))
  simp(maxSteps:=2000000)only[↓aN,lf,aJ,↓reduceIte,aa,ah,ae,zB iB jT,hl,g8,dr]
  refine nW q _ l1 Hx l2 (by simp only[cP,hl]) ?_ ?_ ?_ ?_
  all_goals simp only[cR,ae,g0,g1,g5,g7]
theorem x7{l:List Nat}{off m:Nat}(h:off+m<=l.length):val l=val (l.take off)+4294967296^off*(sh l off m+4294967296^m*val (l.drop (off+m))):=by
 have e1:l=l.take off++l.drop off:=(aQ7 off l).symm;have e2:l.drop off=(l.drop off).take m++(l.drop off).drop m:=(aQ7 m _).symm;have h1:(l.take off).length=off:=by rw[aMo];omega
 have h2:((l.drop off).take m).length=m:=by rw[aMo,aQ6];omega
 conv=>lhs;rw[e1]
 rw[oM,h1]
 conv=>lhs;rw[e2]
 rw[oM,h2,List.drop_drop];rfl
theorem za{a b:List Nat}(hl:a.length=b.length)(h:∀j,j<a.length->a.getD j 0=b.getD j 0):a=b:=by
 refine aRt hl fun j h1 h2=>?_
 have:=h j h1
 rw[aPn,aPn,aL5 h1,aL5 h2]at this;exact this
theorem getD_take{l:List Nat}{n j:Nat}(h:j<n):(l.take n).getD j 0=l.getD j 0:=by rw[aPn,List.getElem?_take_of_lt h,aPn]
theorem CN{l:List Nat}{n j:Nat}:(l.drop n).getD j 0=l.getD (n+j) 0:=by rw[aPn,aK7,aPn]
theorem QS{W W':List Nat}{off m:Nat}(h:off+m<=W.length)(hl:W'.length=W.length)(ho:∀j,(j<off∨off+m<=j)->W'.getD j 0=W.getD j 0):
  val W'+4294967296^off*sh W off m=val W+4294967296^off*sh W' off m:=by
 rw[x7 h,x7 (l:=W') (off:=off) (m:=m) (by omega)];have e1:W'.take off=W.take off:=by
  refine za (by rw[aMo,aMo,hl]) fun j hj=>?_
  rw[aMo]at hj;rw[getD_take (by omega),getD_take (by omega),ho j (by omega)]
 have e2:W'.drop (off+m)=W.drop (off+m):=by
  refine za (by rw[aQ6,aQ6,hl]) fun j hj=>?_
  rw[CN,CN,ho _ (by omega)]
 rw[e1,e2,aPe,aPe];omega
theorem Ye{U:List Nat}{off m:Nat}(h:off<U.length):sh U off (m+1)=U.getD off 0+4294967296*sh U (off+1) m:=by unfold sh;rw[aPB h,List.take_succ_cons];simp[val,aPn,h]
theorem Bm:∀{l:List Nat},(∀j,l.getD j 0=0)->val l=0
 |[],_=>rfl
 |d::l,h=>by
  have h0:=h 0;simp only[List.getD_cons_zero]at h0
  have:=Bm (l:=l) fun j=>by have:=h (j+1);simpa using this
  simp[val,h0,this]
theorem ad1{W:List Nat}{m:Nat}(hm:m<=W.length)(h:∀j,m<=j->W.getD j 0=0):val W=sh W 0 m:=by have h1:=x7 (l:=W) (off:=0) (m:=m) (by omega);rw[Bm (l:=W.drop (0+m)) fun j=>by rw[CN];exact h _ (by omega)]at h1;rw[h1];simp[val]
theorem Qs{U:List Nat}{off m K:Nat}(h:off+m=U.length)(hK:val U<4294967296^off*K):sh U off m<K:=by have h1:=x7 (l:=U) (off:=off) (m:=m) (by omega);rw[h,List.drop_length]at h1;simp only[val,aPL,aQZ]at h1;refine aQ0 (a:=4294967296^off) ?_;generalize 4294967296^off=P at*;omega
theorem xb:∀{k x:Nat},0<x->x<2^k->2^(Lib.bitLenAux k x-1)<=x/\x<2^Lib.bitLenAux k x/\0<Lib.bitLenAux k x/\Lib.bitLenAux k x<=k
 |0,x,h0,h=>by simp at h;omega
 |k+1,x,h0,h=>by
  rw[Lib.bitLenAux,if_neg (by omega)];by_cases hx:x/2=0
  ·have:x=1:=by omega
   subst this;rw[hx]
   have:Lib.bitLenAux k 0=0:=by cases k<;>simp[Lib.bitLenAux]
   rw[this]
   simp
  ·obtain⟨h1,h2,h3,h4⟩:=xb (k:=k) (x:=x/2) (by omega) (by rw[aPA]at h;omega);have e1:2^(1+Lib.bitLenAux k (x/2)-1)=2^(Lib.bitLenAux k (x/2)-1)*2:=by rw[<-aPA];congr 1;omega
   have e2:2^(1+Lib.bitLenAux k (x/2))=2^(Lib.bitLenAux k (x/2))*2:=by rw[<-aPA];congr 1;omega
   rw[e1,e2];omega
theorem Qt{x:Nat}(h0:0<x)(h:x<4294967296):∃n:Nat,n<32/\(32-(Lib.bitLen x:Int))=(n:Int)/\2147483648<=x*2^n/\(x+1)*2^n<=4294967296:=by
 obtain⟨h1,h2,h3,_⟩:=xb (k:=64) h0 (by omega);have h4:Lib.bitLenAux 64 x<=32:=by
  refine aRe fun iH=>?_
  have:2^32<=2^(Lib.bitLenAux 64 x-1):=aQT (by omega) (by omega)
  omega
 refine⟨32-Lib.bitLenAux 64 x,by omega,by unfold Lib.bitLen;omega,?_,?_⟩
 ·have:=aLL (2^(32-Lib.bitLenAux 64 x)) h1
  rw[<-aQ3,show Lib.bitLenAux 64 x-1+(32-Lib.bitLenAux 64 x)=31 by omega]at this;exact this
 ·have:=aLL (2^(32-Lib.bitLenAux 64 x)) (show x+1<=2^Lib.bitLenAux 64 x by omega)
  rw[<-aQ3,show Lib.bitLenAux 64 x+(32-Lib.bitLenAux 64 x)=32 by omega]at this;exact this
theorem Tu{n:Nat}:0<4294967296^n:=Nat.pow_pos (by decide)
theorem Ww{b V:List Nat}{m n:Nat}(hb:∀d∈b,d<4294967296)(hl:b.length=m+1)(hV:∀d∈V,d<4294967296)(hn:Norm V)(h1:2147483648<=b.getD m 0*2^n)(h2:(b.getD m 0+1)*2^n<=4294967296)(hv:val V=val b*2^n):
  V.length=m+1/\2147483648<=V.getD m 0:=by
 have eb:=tk (l:=b);rw[hl,cJ (by omega)]at eb;have lb:val (b.take m)<4294967296^m:=by
  have:=oQ (l:=b.take m) fun d hd=>hb d (aPO hd)
  rwa[aMo,aPM (by omega)]at this
 have hP:=Tu (n:=m);have kO:4294967296^m*2147483648<=val V:=by
  rw[hv,<-eb];generalize 4294967296^m=P at*
  have:P*2147483648<=P*(b.getD m 0*2^n):=aPQ _ h1
  rw[aLS,aPv];omega
 have P7:val V<4294967296^m*4294967296:=by
  rw[hv,<-eb];generalize 4294967296^m=P at*;have h3:(val (b.take m)+P*b.getD m 0)*2^n<P*(b.getD m 0+1)*2^n:=by refine aRc ?_ (aQR n);rw[aPe,aPV];omega
  have h4:P*(b.getD m 0+1)*2^n<=P*4294967296:=by rw[aPv];exact aPQ _ h2
  omega
 have hVl:=oQ hV;have dY:V≠[]:=by
  intro e;subst e
  simp only[val]at kO
  have:0<4294967296^m*2147483648:=Nat.mul_pos hP (by decide)
  omega
 have hVg:=BG hn dY;have len:V.length=m+1:=by
  have a1:m<V.length:=by refine(aQW (a:=4294967296) (by omega)).1 ?_;generalize 4294967296^m=P at*;generalize 4294967296^V.length=Q at*;omega
  have a2:V.length-1<m+1:=by refine(aQW (a:=4294967296) (by omega)).1 ?_;rw[aPA];generalize 4294967296^m=P at*;generalize 4294967296^(V.length-1)=Q at*;omega
  omega
 refine⟨len,?_⟩;have eV:=tk (l:=V);rw[len,cJ (by omega)]at eV;have lV:val (V.take m)<4294967296^m:=by
  have:=oQ (l:=V.take m) fun d hd=>hV d (aPO hd)
  rwa[aMo,aPM (by omega)]at this
 rw[<-eV]at kO;generalize 4294967296^m=P at*;have h5:P*2147483648<P*(V.getD m 0+1):=by rw[aPe,aPV];omega
 have:=aQ0 h5
 omega
theorem Xs{a b V:List Nat}{n:Nat}(ha:∀d∈a,d<4294967296)(hb:Norm b)(dY:b≠[])(hle:b.length<=a.length)(hV:val V=val b*2^n):val a*2^n<4294967296^(a.length-b.length)*(4294967296*val V):=by
 have h1:=oQ ha;have h2:=BG hb dY;have hl:0<b.length:=aQS.2 dY;have e:a.length=(a.length-b.length)+1+(b.length-1):=by omega
 rw[hV];have h3:val a*2^n<4294967296^a.length*2^n:=aRc h1 (aQR n);refine aNt h3 ?_;rw[e,aQ3,aPA];rw[<-e];have e2:4294967296^(a.length-b.length)*(4294967296*(val b*2^n))=4294967296^(a.length-b.length)*4294967296*val b*2^n:=by ac_rfl
 rw[e2];exact aLL _ (aPQ _ h2)
theorem o7{E:Env}{f:Nat}{al:List AV}{r:AV}(h:E.ov f al=some r)(hp:bQ E f=false):aP E f al=some r:=by
 refine eh ⟨fun fi mI=>?_,0,?_⟩
 ·unfold bQ at hp;rw[mI]at hp;obtain⟨code,ntmps,results,pu,du⟩:=fi;cases pu
  ·simp at hp
  ·rfl
 ·unfold call pK;rw[h]
theorem abm{x:Nat}(h:x<4294967296):aP E 177 [.int .u32 (x:Int)]=some (.int .i64 (32-(Lib.bitLen x:Int))):=by
 refine o7 ?_ arA;rw[C.Uw _ _ (by decide)];rw[show jC Bz 177 [.int .u32 (x:Int)]=Wq [.int .u32 (x:Int)]by simp[jC,Bz]];unfold Wq;simp only;rw[if_pos ⟨by omega,by omega⟩]
 simp
theorem ayX{H:Hp}{m i j:Nat}(G8:i<j)(hj:j<=m):Ez E H 58 (.aI 0 0 m 1 m) (some (.int .i64 (i:Int))) (some (.int .i64 (j:Int)))=some (.aI 0 i (j-i) 1 (m-i)):=by
 obtain⟨ti,e,ei,h1,h2,h3,h4,h5,_⟩:=ij (DX (E:=E));obtain⟨cV,isAgg,size,bytes,zero,eS⟩:=ti;simp only at h2;subst h2;have hb:gW m m (some (.int .i64 (i:Int))) (some (.int .i64 (j:Int)))=some (i,j):=by simp only[gW,hiE,asNat,loE];rw[if_pos ⟨by omega,by omega⟩];simp only[aPh];rw[if_pos ⟨by omega,by omega⟩]
 simp only[Ez,h1,iS,h3,hb];rw[if_neg (by omega)];by_cases hi:i=0
 ·subst hi;simp
 ·rw[if_neg hi,if_neg (by omega)];simp[]
theorem acJ{A B Q W p:Nat}(h:A*p=Q*(B*p)+W)(iH:W<B*p)(hp:0<p):Q=A/B/\W/p=A%B:=by
 have h1:A=Q*B+W/p:=by
  have h2:(Q*B*p+W)/p=Q*B+W/p:=by rw[aQ8,aRk _ _ hp,aQ8]
  rw[<-h2,aPv,<-h,aRo _ hp]
 have h3:W/p<B:=aRl (by rw[aPT];exact iH);have hB:0<B:=aQQ (Nat.zero_le _) h3;generalize W/p=R at*;subst h1;rw[aQ8,aRk _ _ hB,Nat.add_mul_mod_self_right,aQ5 h3,aPz h3];omega
theorem bs1{aL:Nat}{x:Int}:aT E aL 58 1 [(0,.int .u32 x)]=some (.aI aL 0 1 1 1,[(aL,.cells .live [.int .u32 x])]):=by obtain⟨i,e,ei,h1,h2,h3,h4,h5,h6,h7⟩:=ij (DX (E:=E));obtain⟨cV,isAgg,size,bytes,zero,eS⟩:=i;simp only at h2;subst h2;simp[aT,h1,h3,h7,h5,gV,iE,AV.cells]
theorem tL{cs:List AV}{n:Nat}:bR (.aK cs n)=false:=rfl
theorem Ze{cs:List AV}:cz.nL (.cells .live cs)=.cells .ro cs:=rfl
theorem FC{H:Hp}{b m:Nat}{l:List Nat}{st:gu}(h:H[b]?=some (.cells st (cM l)))(hd:st≠ .dead)(hm:l.length=m):ow false H [.aI b 0 m 1 m]=some ([.aK (cM l) m],[b]):=by subst hm;rw[nQ];exact xc h hd
theorem Xj{P M X d v:Nat}(h:M=X+P*d)(hm:M<v)(hv:v<P):d=0:=by
 refine Nat.eq_zero_of_not_pos fun hd=>?_
 have:P*1<=P*d:=aPQ _ hd
 omega
theorem adL{P M X d v x:Nat}(h:M=X+P*d)(hm:M<v)(hx:x<4294967296):x+4294967296*X<4294967296*v:=by
 have h1:X+1<=v:=by omega
 have h2:=aPQ 4294967296 h1;omega
theorem Y8{U W W' Q:List Nat}{i n q v:Nat}(hW:W.length=U.length)(hU:i+(n+3)<=U.length)(hW':W'.length=W.length)(ho:∀j,(j<i∨i+(n+3)<=j)->W'.getD j 0=W.getD j 0)(hm:sh W' i (n+3)+q*v=sh W i (n+3))(hQ:i<Q.length)
  (hv:val U=4294967296^(i+1)*(val (Q.drop (i+1))*v)+val W):val U=4294967296^i*(val ((Q.set i q).drop i)*v)+val W':=by
 have h1:=QS (W:=W) (W':=W') (off:=i) (m:=n+3) (by omega) hW' ho;have h2:val ((Q.set i q).drop i)=q+4294967296*val (Q.drop (i+1)):=by
  have:=zo (l:=Q) (k:=i+1) (d:=q) (by omega) (by omega)
  simpa using this
 rw[h2,hv,aPA];rw[<-hm]at h1;generalize 4294967296^i=P at*;generalize val (Q.drop (i+1))=D at*;generalize sh W' i (n+3)=M at*;have e1:P*4294967296*(D*v)+P*(q*v)=P*((q+4294967296*D)*v):=by
  rw[aLS,aPe]
  have:P*4294967296*(D*v)=P*(4294967296*D*v):=by ac_rfl
  omega
 rw[aPe]at h1;omega
theorem Dx{va vb:AV}{a b:List Nat}(ha:fN va a)(hb:fN vb b)(na:Norm a)(nb:Norm b)(dY:b≠[])(la:a.length<10000000000)(lb:b.length<10000000000):
  ∃q r,aP E 143 [va,vb]=some (.tuple [q,r])/\∃ql rl,fN q ql/\Norm ql/\val ql=val a/val b/\fN r rl/\Norm rl/\val rl=val a%val b:=by
 suffices hh:∃u,aP E 143 [va,vb]=some u/\∃q r,u=.tuple [q,r]/\∃ql rl,fN q ql/\Norm ql/\val ql=val a/val b/\fN r rl/\Norm rl/\val rl=val a%val b by
  obtain⟨u,h1,q,r,rfl,h2⟩:=hh;exact⟨q,r,h1,h2⟩
 refine tp anF ?_;intro ts hl g0 g1;have T:=jb C.toOver;unfold anc;have Kd:=eh (uw C ha hb na nb (by omega) (by omega));have pa:=aM ha;have pb:=aM hb;by_cases iH:val a<val b
 ·have hd:decide (pO (val a) (val b)<0)=true:=b8 (by unfold pO;rw[if_pos (by omega)];decide);simp only[↓aN,lf,↓aQ,aJ,aa,ae,Tryz.f143,hl,g0,g1,Kd,pa,pb,hd];exact⟨_,_,rfl,[],a,⟨by simp,.inr ⟨rfl,.inl rfl⟩⟩,by intro d l0 h;simp at h,by rw[aQ5 iH];rfl,ha,na,(aPz iH).symm⟩
 have hd:decide (pO (val a) (val b)<0)=false:=cg (by unfold pO;rw[if_neg (by omega)];split<;>decide);have VM:0<b.length:=aQS.2 dY;by_cases h1:b.length=1
 ·obtain⟨x,rfl⟩:∃x,b=[x]:=by
   match b,h1 with
   |[x],_=>exact⟨x,rfl⟩
  have tt:x<4294967296:=hb.1 x (by simp);have Lm:x≠0:=nb x [] rfl;have DY:(((([x]:List Nat).length:Nat):Int)==1)=true:=rfl;have L8:=k8 T hb (k:=.i64) (z:=0) (by omega) (by simp);have OE:(cM [x])[0]?=some (.int .u32 (x:Int)):=rfl;obtain⟨r0,F2,ql,hq,hqn,Tp⟩:=F1 C ha (by omega) Lm tt;have hvx:val [x]=x:=by simp[val]
  rw[hvx];have agB:val a%x<4294967296:=Nat.lt_trans (aQU _ (by omega)) tt;have xJ:fN (.aK (cM [val a%x]) 1) [val a%x]:=⟨by simpa using agB,.inl rfl⟩;obtain⟨r,hr,JZ⟩:=kX C xJ (by simp);have nw:=eh hr;have gg:ow false [.cells .live [.int .u32 ((val a%x:Nat):Int)]] [.aI 0 0 1 1 1]=some ([.aK (cM [val a%x]) 1],[0]):=FC (l:=[val a%x]) (st:=.live) rfl (by decide) rfl;simp only[↓aN,lf,↓aQ,aJ,aa,ae,nO,jS,aq,cQ,Tryz.f143,hl,g0,g1,Kd,pa,pb,hd,iC hb,L8,OE,F2,bs1,mN,gg,nw,aM hq,aM JZ];exact⟨_,_,rfl,ql,_,hq,hqn,Tp,JZ,kG _,by rw[jN];simp[val]⟩
 obtain⟨n,hn⟩:∃n,b.length=n+2:=⟨b.length-2,by omega⟩;have DY:((b.length:Int)==1)=false:=by rw[beq_eq_false_iff_ne];omega
 have hle:b.length<=a.length:=by
  refine aRe fun h=>iH (yg ha.1 nb h)
 have wb1:aX .i64 ((b.length:Int)-1)=((n+1:Nat):Int):=by rw[wrap_i64 (by omega) (by omega)];omega
 have L8:=k8 T hb (k:=.i64) (z:=((n+1:Nat):Int)) (by omega) (by omega);rw[aPh]at L8;have OE:=il (out:=b) (j:=n+1) (by omega);have tt:=gY hb.1 (i:=n+1);have Lm:b.getD (n+1) 0≠0:=by refine nb _ (b.take (n+1)) ?_;have e:=(aQ7 (n+1) b).symm;rw[aPB (by omega),aQ4 (by omega)]at e;rw[aPn,aL5 (by omega)];exact e
 obtain⟨s,ajb,hlz,hs1,hs2⟩:=Qt (x:=b.getD (n+1) 0) (by omega) tt;have aqZ:=abm (E:=E) tt;rw[hlz]at aqZ;obtain⟨_,_,hra,U,rfl,rfl,hUl,Pz,hUv⟩:=Dg (E:=E) ha (by omega) ajb (H0:=[]);obtain⟨_,_,Lf,Bt,rfl,rfl,Ab,hBd,hBv⟩:=Dg (E:=E) hb (by omega) ajb (H0:=[.cells .live (cM U)]);simp only[aO9,aPg]at hra;simp only[aMm,aO9,List.cons_append,aPg,aLM]at Lf;have xJ:fN (.aK (cM Bt) (b.length+1)) Bt:=⟨hBd,.inl (by rw[Ab])⟩;obtain⟨vv,hvv,hvm⟩:=kX C xJ (by omega);have auF:=eh hvv;have hVn:=kG Bt;have hVv:=jN Bt;rw[hBv]at hVv;generalize kq Bt=Vl at hvm hVn hVv;obtain⟨hVl,hVt⟩:=Ww hb.1 hn hvm.1 hVn hs1 hs2 hVv;obtain rfl:vv=.aK (cM Vl) (n+2):=by
  rcases hvm.2 with h|⟨h,_⟩
  ·rw[h,hVl]
  ·rw[h]at hVl;simp at hVl
 have UH:=Xs ha.1 nb dY hle hVv;rw[<-hUv]at UH;have asm:ow false [.cells .live (cM U),.cells .live (cM Bt)] [.aI 1 0 (b.length+1) 1 (b.length+1)]=some ([.aK (cM Bt) (b.length+1)],[1]):=FC (st:=.live) rfl (by decide) Ab;obtain⟨K,hK⟩:∃K,K=a.length-b.length+1:=⟨_,rfl⟩;have wab:aX .i64 ((a.length:Int)-(b.length:Int))=((a.length-b.length:Nat):Int):=by rw[wrap_i64 (by omega) (by omega)];omega
 have wK:aX .i64 (((a.length-b.length:Nat):Int)+1)=(K:Int):=by rw[wrap_i64 (by omega) (by omega)];omega
 have wK1:aX .i64 ((K:Int)-1)=(K:Int)-1:=wrap_i64 (by omega) (by omega);simp only[↓aN,lf,↓aQ,aJ,↓reduceIte,aa,ah,ae,nO,jS,J6,cQ,Tryz.f143,hl,g0,g1,Kd,pa,pb,hd,iC ha,iC hb,DY,wb1,L8,OE,aqZ,hra,Lf,asm,auF,tL,rG,Ze,wab,wK,wK1,aeE (show K<=100000000000 by omega),NN,lP,mN];refine ft (fun k_ ts H=>∃m W Q,k_=0+m/\ts.length=79/\gt ts 4=.aI 2 0 K 1 K/\gt ts 8=.int .i64 (s:Int)/\gt ts 9=.aI 0 0 (a.length+1) 1 (a.length+1)/\gt ts 10=.aK (cM Vl) (n+2)/\gt ts 11=.int .i64 ((m:Int)-1)/\H=[.cells .live (cM W),.cells .ro (cM Bt),.cells .live (cM Q)]/\(m<=K)/\(W.length=a.length+1)/\(∀d∈W,d<4294967296)/\(Q.length=K)/\(∀d∈Q,d<4294967296)/\(∀j,m+(n+2)<=j->W.getD j 0=0)/\(0<m->sh W (m-1) (n+3)<4294967296*val Vl)/\(m<K->sh W m (n+2)<val Vl)/\(val U=4294967296^m*(val (Q.drop m)*val Vl)+val W)) (K) ?_ ?_
 rotate_left
 ·refine⟨K,U,aK3 K 0,(by first|omega|rfl|(simp;done)),(by simp only[cP,hl]),?_⟩;simp only[cR,hl,aa,ae]
  iterate 6 refine⟨by first|trivial|rfl|(congr 1;omega)|(simp;done)|(simp;omega),?_⟩
  refine⟨?_,?_,?_,?_,?_,?_,?_,?_,?_⟩
  ·omega
  ·exact hUl
  ·exact Pz
  ·simp
  ·exact EA
  ·intro j hj;rw[aPn,aK4 (by omega)];rfl
  ·intro _;rw[show K-1=a.length-b.length by omega];exact Qs (by omega) UH
  ·intro h;omega
  ·rw[aQ4 (by simp)];simp[val]
 clear hl g0 g1 ts;rintro k_ ts H ⟨m,W,Q,rfl,hl,g4,g8,g9,g10,g11,rfl,hk,hW,hWd,hQ,hQd,hWz,hW1,hW2,hv⟩;refine VS ?_;by_cases Zh:m=0
 ·subst Zh;have sk:decide ((0:Int)-1≥0)=false:=rfl;have hmq:fN (.aK (cM Q) K) Q:=⟨hQd,.inl (by rw[hQ])⟩;have hmw:fN (.aK (cM W) (a.length+1)) W:=⟨hWd,.inl (by rw[hW])⟩;obtain⟨qv,Tp,V1⟩:=kX C hmq (by omega);obtain⟨wv,hwv,hwm⟩:=kX C hmw (by omega);have awT:=eh Tp;have awk:=eh hwv;obtain⟨rv,VK,rl,JZ,hrn,are⟩:=Ju (E:=E) hwm (by obtain⟨z,hz⟩:=sB W;have:=congrArg List.length hz;rw[List.length_append]at this;omega) ajb;have hfq:ow false [.cells .live (cM W),.cells .ro (cM Bt),.cells .live (cM Q)] [.aI 2 0 K 1 K]=some ([.aK (cM Q) K],[2]):=FC (st:=.live) rfl (by decide) hQ;have hfw:∀c:Bool,ow false ((if c=true then cE.looks [2]else cE.marks [2]).app [.cells .live (cM W),.cells .ro (cM Bt),.cells .live (cM Q)]) [.aI 0 0 (a.length+1) 1 (a.length+1)]=some ([.aK (cM W) (a.length+1)],[0]):=by
   intro c;cases c
   ·exact FC (st:=.live) rfl (by decide) hW
   ·exact FC (st:=.live) rfl (by decide) hW
  simp only[↓aN,lf,↓aQ,aJ,↓reduceIte,aa,ae,hl,g4,g8,g9,g11,sk,hfq,awT,hfw,awk,VK,aM V1,aM hwm,aM JZ];have apP:=hW2 (by omega);have aoR:=ad1 (W:=W) (m:=n+2) (by omega) (fun j hj=>hWz j (by omega));simp only[aPp,Nat.pow_zero,aRh]at hv;rw[hUv,hVv]at hv;rw[<-aoR,hVv]at apP;obtain⟨f1,f2⟩:=acJ hv apP (aQR s);refine⟨_,_,rfl,_,rl,V1,kG _,by rw[jN];exact f1,JZ,hrn,?_⟩;rw[are,jN];exact f2
 ·obtain⟨i,rfl⟩:∃i,m=i+1:=⟨m-1,by omega⟩;have ax2:gt ts 11=.int .i64 (i:Int):=by rw[g11];congr 1;omega
  have sk:decide ((i:Int)≥0)=true:=b8 (by omega);have aou:=hW1 (by omega);rw[aRp]at aou;have e2:((i:Int)<((K:Nat):Int))=True:=eq_true (by omega);have wx:aX .i64 ((i:Int)+((n+2:Nat):Int))=((i+(n+2):Nat):Int):=by rw[<-aPD];exact qN (by omega)
  have wy:aX .i64 (((i+(n+2):Nat):Int)+1)=((i+(n+2)+1:Nat):Int):=by rw[wrap_i64 (by omega) (by omega)];omega
  have wz:aX .i64 ((i:Int)-1)=(i:Int)-1:=wrap_i64 (by omega) (by omega);have sT:∀H,Ez E H 58 (.aI 0 0 (a.length+1) 1 (a.length+1)) (some (.int .i64 (i:Int))) (some (.int .i64 ((i+(n+2)+1:Nat):Int)))=some (.aI 0 i (n+3) 1 (a.length+1-i)):=by intro H;rw[ayX (by omega) (by omega),show i+(n+2)+1-i=n+3 by omega]
  obtain⟨_,_,aw3,q,W',rfl,rfl,axD,anI,ao7,hWo,abI,UA⟩:=Rc (E:=E) (off:=i) (kc:=a.length+1-i) (H1:=[.cells .ro (cM Bt),.cells .live (cM Q)]) hvm hVl (by omega) (by omega) (by omega) hWd hVt aou;have fZ:=fun z H=>sY (H:=H) (z:=z) (out:=Q) (j:=i) (by omega)
  simp only[↓aN,lf,↓aQ,aJ,↓reduceIte,aa,ah,ae,jS,Xt,cQ,hl,g4,g9,g10,ax2,e2,wx,wy,wz,sT,aw3,fZ,qb,lP,ga,AV.cells];refine dG ?_;refine⟨_,?_,i,W',Q.set i q,rfl,(by simp only[cP,hl]),?_⟩
  ·first|omega|(simp;omega)
  simp only[cR,hl,aa,ae,g4,g8,g9,g10]
  iterate 6 refine⟨by first|trivial|rfl|(congr 1;omega)|(simp;done)|(simp;omega),?_⟩
  refine⟨?_,?_,?_,?_,?_,?_,?_,?_,?_⟩
  ·omega
  ·rw[anI,hW]
  ·exact ao7
  ·simpa using hQ
  ·exact dL hQd axD
  ·intro j hj;by_cases VU:i+(n+3)<=j
   ·rw[hWo j (.inr VU)];exact hWz j (by omega)
   ·obtain rfl:j=i+(n+2):=by omega
    have h5:=mR (U:=W') (off:=i) (k:=n+2) (by omega);have h6:=oQ hvm.1;rw[hVl]at h6;rw[show n+3=n+2+1 from rfl]at UA;exact Xj h5 UA h6
  ·intro hi;obtain⟨i',rfl⟩:∃i',i=i'+1:=⟨i-1,by omega⟩;rw[aRp,Ye (by omega)];have h5:=mR (U:=W') (off:=i'+1) (k:=n+2) (by omega);have h7:=gY ao7 (i:=i');rw[show n+3=n+2+1 from rfl]at UA;exact adL h5 UA h7
  ·intro _;have h5:=mR (U:=W') (off:=i) (k:=n+2) (by omega);rw[show n+3=n+2+1 from rfl]at UA;exact aQQ (by rw[h5];exact Nat.le_add_right _ _) UA
  ·exact Y8 (by rw[hW,hUl]) (by omega) anI hWo abI (by omega) hv
theorem xj{l:List Nat}{z:Int}(hn:Norm l)(hz:z.natAbs=val l)(h:Fit z):l.length<10000000000:=by
 obtain⟨n,h1,h2⟩:=h;by_cases he:l=[]
 ·subst he;simp
 ·have h3:=BG hn he;have h4:l.length-1<n:=by
   have:4294967296^(l.length-1)<4294967296^n:=by omega
   exact(aQW (by omega)).1 this
  omega
theorem oY{a b:List Nat}(ha:∀d∈a,d<4294967296)(nb:Norm b)(h:val b<=val a):b.length<=a.length:=by
 refine aRe fun iH=>?_
 have:=yg ha nb iH
 omega
theorem tQ{v w:AV}{x y:Int}(h:fm v x)(k:fm w y)(fx:Fit x)(fy:Fit y):∃r,aP E 104 [v,w]=some r/\fm r ((Int.gcd x y:Nat):Int):=by
 obtain⟨na,m,a,rfl,hm,hn,tq,rfl⟩:=h;obtain⟨nb,m',b,rfl,kM,yU,Lz,rfl⟩:=k;have la:=xj hn oO fx;have lb:=xj yU oO fy;refine tp aqC ?_;intro ts hl g0 g1;have T:=jb C.toOver;unfold aoY;have hg:Int.gcd (if na=true then-(val a:Int)else val a) (if nb=true then-(val b:Int)else val b)=Nat.gcd (val a) (val b):=by unfold Int.gcd;rw[oO,oO]
 rw[hg];simp only[↓aN,lf,Gw,aJ,aa,ah,ae,Tryz.f104,hl,g0,g1];refine ft (fun k_ ts H=>∃xv xl yv yl,k_=0+val yl/\ts.length=26/\gt ts 4=.b9 2 0/\gt ts 5=xv/\gt ts 6=yv/\H=[.cells .live [.bool na,m],.cells .live [.bool nb,m'],.cells .live [.bool false,.aH]]/\(fN xv xl)/\(fN yv yl)/\(Norm xl)/\(Norm yl)/\(xl.length<10000000000)/\(yl.length<10000000000)/\(Nat.gcd (val xl) (val yl)=Nat.gcd (val a) (val b))) (val b) ?_ ?_
 rotate_left
 ·refine⟨m,a,m',b,(by first|omega|rfl|(simp;done)),(by simp only[cP,hl]),?_⟩;simp only[cR,hl,aa,ae]
  iterate 4 refine⟨by first|trivial|rfl|(congr 1;omega)|(simp;done)|(simp;omega),?_⟩
  refine⟨?_,?_,?_,?_,?_,?_,?_⟩
  ·exact hm
  ·exact kM
  ·exact hn
  ·exact yU
  ·exact la
  ·exact lb
  ·trivial
 clear hl g0 g1 ts;rintro k_ ts H ⟨xv,xl,yv,yl,rfl,hl,g4,g5,g6,rfl,hx,hy,nx,ny,lx,ly,ajV⟩;refine VS ?_;by_cases hyn:yl=[]
 ·subst hyn;have hd:decide (((([]:List Nat).length:Nat):Int)>0)=false:=rfl;simp only[↓aN,lf,Gw,aJ,↓reduceIte,aa,ah,ae,ar,hl,g4,g5,g6,iC hy,(aY hx).1,(aY hx).2,aM hx];refine⟨false,xv,xl,rfl,hx,nx,by simp,?_⟩;simp only[val,Nat.gcd_zero_right]at ajV;rw[<-ajV];rfl
 ·have hyl:0<yl.length:=aQS.2 hyn;have hyp:=uW ny hyn;have hd:decide ((yl.length:Int)>0)=true:=b8 (by omega);obtain⟨qv,rv,hdv,ql,rl,hq,nq,vq,hr,nr,vr⟩:=Dx (E:=E) hx hy nx ny hyn lx ly;simp only[↓aN,lf,Gw,↓aQ,aJ,aa,ah,ae,hl,g5,g6,iC hy,hd,hdv,aM hx,aM hy];have iH:val rl<val yl:=by rw[vr];exact aQU _ hyp
  refine dG ?_;refine⟨_,?_,yv,yl,rv,rl,rfl,(by simp only[cP,hl]),?_⟩
  ·first|omega|(simp;omega)
  simp only[cR,hl,aa,ae,g4]
  iterate 4 refine⟨by first|trivial|rfl|(congr 1;omega)|(simp;done)|(simp;omega),?_⟩
  refine⟨?_,?_,?_,?_,?_,?_,?_⟩
  ·exact hy
  ·exact hr
  ·exact ny
  ·exact nr
  ·exact ly
  ·exact aQQ (oY hy.1 nr (by omega)) ly
  ·rw[vr,<-ajV,Nat.gcd_comm (val xl),Nat.gcd_rec (val yl) (val xl),Nat.gcd_comm]
theorem adY{s:List UInt8}:(AV.str s).cells=[.str s]:=rfl
theorem adj{k:IntKind}{n:Int}:(AV.int k n).cells=[.int k n]:=rfl
theorem abu{b:Bool}:(AV.bool b).cells=[.bool b]:=rfl
theorem akm{s:List UInt8}:df (.str s)=true:=rfl
theorem XZ{k:IntKind}{n:Int}:df (.int k n)=true:=rfl
theorem oK{b:Bool}:df (.bool b)=true:=rfl
theorem ajm:df .aH=true:=rfl
theorem RI{l:List AV}:fS (.agg l)=[]:=rfl
theorem acI{l:List AV}{n:Nat}:fS (.aK l n)=[]:=rfl
theorem aaQ:fS .aH=[]:=rfl
theorem abw:fS .eW=[]:=rfl
theorem ac3{k:IntKind}{n:Int}:fS (.int k n)=[]:=rfl
theorem acz{b:Bool}:fS (.bool b)=[]:=rfl
theorem ad2{s:List UInt8}:fS (.str s)=[]:=rfl
theorem abW{l:List AV}:fS (.tuple l)=[]:=rfl
theorem ahX{b:Bool}:(b !=false)=b:=by cases b<;>rfl
theorem dD{v:AV}{z:Int}(h:fm v z):aU v=true:=by obtain⟨a,b,rfl,_,_,h1,h2⟩:=qZ h;simp[aU,bE,h1,h2]
theorem aag:yX 0=0:=rfl
theorem nK{v w:AV}{x y:Int}(h:fm v x)(k:fm w y)(fx:Fit x)(fy:Fit y)(hy:0<y)(hd:y∣x):
  ∃q r,aP E 103 [v,w]=some (.tuple [q,r,.int .i64 0])/\fm q (x/y)/\fm r 0:=by
 suffices hh:∃u,aP E 103 [v,w]=some u/\∃q r,u=.tuple [q,r,.int .i64 0]/\fm q (x/y)/\fm r 0 by
  obtain⟨u,h1,q,r,rfl,h2⟩:=hh;exact⟨q,r,h1,h2⟩
 have mE:=jP C k;rw[show yX y=1 by unfold yX;split<;>(try split)<;>omega]at mE;have pv:=dD h;have pw:=dD k;obtain⟨na,m,a,rfl,hm,hn,tq,rfl⟩:=h;obtain⟨nb,m',b,rfl,kM,yU,Lz,rfl⟩:=k;have la:=xj hn oO fx;have lb:=xj yU oO fy;obtain rfl:nb=false:=by
  cases nb with
  |false=>rfl
  |true=>simp only[if_true]at hy;omega
 simp only[aKT,if_false]at hy hd;have hbp:0<val b:=by omega
 have IL:b≠[]:=by intro e;subst e;simp[val]at hbp
 have hdn:val b∣val a:=by
  cases na with
  |false=>simp only[aKT,if_false]at hd;exact aQ2.1 hd
  |true=>simp only[if_true]at hd;exact aQ2.1 ((Int.dvd_neg).1 hd)
 obtain⟨qv,rv,hdv,ql,rl,hq,nq,vq,hr,nr,vr⟩:=Dx (E:=E) hm kM hn yU IL la lb;rw[Nat.mod_eq_zero_of_dvd hdn]at vr;have Xu:ql.length<1000000000000:=by
  have:=oY hm.1 nq (by rw[vq];exact aQ9 _ _)
  omega
 have hrl:rl.length<1000000000000:=by
  have:=oY (a:=[]) (by simp) nr (by rw[vr];exact Nat.zero_le _)
  simp only[aO9]at this;omega
 obtain⟨q',hq',iq⟩:=ko C hq Xu na;obtain⟨r',nw,ir⟩:=ko C hr hrl na;have cq:=eh hq';have cr:=eh nw;rw[vr]at ir;have ir0:fm r' 0:=by cases na<;>simpa using ir
 have hsr:=jP C ir0;have pq:=dD iq;have pr:=dD ir;refine tp anY ?_;intro ts hl g0 g1;have T:=jb C.toOver;have hqi:fm q' ((if na=true then-(val a:Int)else val a)/(if false=true then-(val b:Int)else val b)):=by
  rw[vq]at iq;cases na with
  |false=>simpa using iq
  |true=>
   simp only[if_true,aKT,if_false]at iq⊢;rw[Int.neg_ediv_of_dvd (aQ2.2 hdn),<-Int.natCast_ediv];exact iq
 have xx:=ir0;obtain⟨nq',mq',aq',rfl,awS,aEv,_,aE7⟩:=iq;obtain⟨nr',mr',ar',rfl,axs,aIp,_,aF2⟩:=ir0;unfold anb;simp only[↓aN,lf,Gw,↓aQ,aJ,↓reduceIte,aa,ah,ae,Tryz.f103,gM vn,aj,aD,aE,aj,RI,hl,g0,g1,mE,hdv,aM hq,aM hr,aM hm,aM kM,cq,cr,pw,pq,pr,hsr,aag,ahX,(aY awS).2,(aY axs).2];exact⟨_,_,rfl,hqi,xx⟩
end Go.Proofs.YtblnjkjjedanaaaGreatDoor
namespace Go.Proofs.YtblnjkjjedanaaaGreatDoor
open Go Dv
variable{E:Env}[C:Ctx E]
def anJ:=dZ (dZ @Ze @adY @adj @abu) (dZ @akm @XZ @oK @ajm) (dZ @RI @acI @aaQ @abw) (dZ @ac3 @acz @ad2 @abW)
def aO:=And.intro lf (And.intro Gw anJ)
end Go.Proofs.YtblnjkjjedanaaaGreatDoor
namespace Go.Proofs.YtblnjkjjedanaaaGreatDoor
open Go Dv Dv.b7
variable{E:Env}[C:Ctx E]
def Flat(v:AV):Prop:=∀H n,fz H (n+1) v=some (v,[])
theorem gf{H:Hp}{m:Nat}:∀{l:List AV},(∀v∈l,Flat v)->dP (fz H (m+1)) l=some (l.map fun v=>(v,[]))
 |[],_=>rfl
 |x::l,h=>by
  unfold dP;rw[h x (by simp) H m,gf (l:=l) fun v hv=>h v (by simp[hv])];rfl
theorem eo{l:List AV}:(l.map fun v=>(v,([]:List Nat))).flatMap (·.2)=[]:=by
 induction l with
 |nil=>rfl
 |cons x l ih=>simpa using ih
theorem iP{l:List AV}:(l.map fun v=>(v,([]:List Nat))).map (·.1)=l:=by
 induction l with
 |nil=>rfl
 |cons x l ih=>simpa using ih
theorem iJ{H:Hp}{b m s:Nat}{cs:List AV}{st:gu}(h:H[b]?=some (.cells st cs))(hd:st≠ .dead)(hm:cs.length=m*s)(hf:∀v∈cs,Flat v):ow false H [.aI b 0 m s m]=some ([.aK cs m],[b]):=by
 rw[nQ];have h2:List.take (m*s) (List.drop 0 cs)=cs:=by rw[aPp,<-hm,aQV]
 have h3:=oe (n:=39) (off:=0) (len:=m) (esz:=s) (k:=m) h hd (by omega) (by rw[h2];exact gf hf);unfold bW;rw[show bE [AV.aI b 0 m s m]=false by simp[bE,aU]];simp only[aKT,if_false];unfold dP;rw[h3];unfold dP;simp only[iP,eo,aLJ,List.map_nil,aMk,aRu,List.append_nil]
theorem Wk{H:Hp}{b m s:Nat}{cs:List AV}{st:gu}{y:AV}(h:H[b]?=some (.cells st cs))(hd:st≠ .dead)(hm:cs.length=m*s)(hf:∀v∈cs,Flat v)(hy:Flat y):ow false H [.aI b 0 m s m,y]=some ([.aK cs m,y],[b]):=by
 rw[nQ];have h2:List.take (m*s) (List.drop 0 cs)=cs:=by rw[aPp,<-hm,aQV]
 have h3:=oe (n:=39) (off:=0) (len:=m) (esz:=s) (k:=m) h hd (by omega) (by rw[h2];exact gf hf);unfold bW;rw[show bE [AV.aI b 0 m s m,y]=false by simp[bE,aU]];simp only[aKT,if_false];unfold dP;rw[h3];unfold dP;rw[hy H 39];unfold dP;simp only[iP,eo,aLJ,List.map_nil,aMk,aRu,List.append_nil]
def wW(s low:Nat)(v:AV)(H:Hp)(n:Nat)(cs:List AV):Prop:=(n=0/\cs=[]/\v=.aH)∨(0<n/\∃b,low<=b/\b<H.length/\v=.aI b 0 n s n/\H[b]?=some (.cells .live cs))
theorem kI{H:Hp}{a b:Nat}{x y:cz}:(cE.bU [(a,x),(b,y)]).app H=eE (eE H a x) b y:=rfl
theorem K4{E:Env}{t s rR:Nat}{ag:Bool}{z x cs:List AV}{low n:Nat}{v:AV}{H:Hp}(hS:eu E t=some (ag,s,rR,z))(hs:0<s)(h:wW s low v H n cs)(sd:cs.length=n*s)(hx:x.length=s)(hxo:x.all df=true)(hr:(n+1)*rR<=gO)(hn:n+1<=4611686018427387904)(aoR:low<=H.length):
  ∃v' bU,aV E (H++[cz.cells gu.live x]) (H++[cz.cells gu.live x]).length .append [t,t] [v,.aI H.length 0 1 s 1]=some (v',bU)/\wW s low v' ((cE.bU bU).app (H++[cz.cells gu.live x])) (n+1) (cs++x)/\(∀k,k<low->((cE.bU bU).app (H++[cz.cells gu.live x]))[k]?=H[k]?)/\low<=((cE.bU bU).app (H++[cz.cells gu.live x])).length:=by
 obtain⟨i,e,ei,h1,h2,h3,h4,h5,h6,h7⟩:=ij hS;obtain⟨cV,isAgg,size,bytes,zero,eS⟩:=i;simp only at h2;subst h2 h5 h6;have hlen:(H++[cz.cells gu.live x]).length=H.length+1:=by simp
 have uO:vD (H++[cz.cells gu.live x]) ei false (.aI H.length 0 1 ei.size 1)=some (1,x):=by
  have ht:List.take (1*ei.size) x=x:=by rw[aRh,<-hx,aQV]
  simp[vD,qe,sV,kJ,hx];rw[<-hx];simp
 have hb:aV E (H++[cz.cells gu.live x]) (H++[cz.cells gu.live x]).length .append [t,t] [v,.aI H.length 0 1 ei.size 1]=fQ E (H++[cz.cells gu.live x]) (H++[cz.cells gu.live x]).length false t v (.aI H.length 0 1 ei.size 1):=by simp[aV,h1]
 rw[hb];unfold fQ;simp only[h1,h3,uO];rw[if_neg (by omega),if_neg (by rw[hxo,h7];simp;omega)];rcases h with⟨rfl,rfl,rfl⟩|⟨QH,b,vO,Ao,rfl,Lg⟩
 ·simp only;rw[if_pos ⟨by omega,by omega⟩];refine⟨_,_,rfl,?_,?_,?_⟩
  ·right
   refine⟨by omega,_,?_,?_,rfl,?_⟩
   ·rw[hlen];omega
   ·rw[cQ,ep];simp
   ·rw[cQ,ep,aPg];simp
  ·intro k hk;rw[cQ,ep,aRd,aNq (by omega)]
  ·rw[cQ,ep];simp;omega
 ·have hgb:(H++[cz.cells gu.live x])[b]?=some (.cells .live cs):=by rw[aNq Ao];exact Lg
  simp only[hgb];rw[if_neg (by omega),if_pos ⟨trivial,by omega,by omega,by omega⟩];have hpd:eE (H++[cz.cells gu.live x]) b (.cells .dead [])=(H++[cz.cells gu.live x]).set b (.cells .dead []):=kD (by rw[hlen];omega);have tE:((H++[cz.cells gu.live x]).set b (.cells .dead [])).length=(H++[cz.cells gu.live x]).length:=by simp
  refine⟨_,_,rfl,?_,?_,?_⟩
  ·right
   refine⟨by omega,_,?_,?_,rfl,?_⟩
   ·rw[hlen];omega
   ·rw[kI,hpd,<-tE,ep];simp
   ·rw[kI,hpd,<-tE,ep,aPp,<-sd,aQV];simp
  ·intro k hk;rw[kI,hpd,<-tE,ep,aNq (by simp;omega),aNh (by omega),aNq (by omega)]
  ·rw[kI,hpd,<-tE,ep];simp;omega
theorem ee{E:Env}{t s rR:Nat}{ag:Bool}{z:List AV}{v:AV}{aL:Nat}(hS:eu E t=some (ag,s,rR,z))(hz:z.length=s)(hs:0<s)(hs2:s<=16777216)(hv:v.cells.length=s):aT E aL t 1 [(0,v)]=some (.aI aL 0 1 s 1,[(aL,.cells .live v.cells)]):=by
 obtain⟨i,e,ei,h1,h2,h3,h4,h5,h6,h7⟩:=ij hS;obtain⟨cV,isAgg,size,bytes,zero,eS⟩:=i;simp only at h2;subst h2 h5;have hr:iE z 1=z:=by simp[iE]
 simp only[aT,h1,h3,h7,hr];rw[if_pos ⟨hz,hs,by omega⟩];simp[gV,hv,hz]
theorem Uo{n:Nat}(h:n<=9223372036854775807):aP E 91 [.int .i64 (n:Int)]=some (.str (Lib.decDigits n)):=by refine o7 ?_ aAm;rw[C.Uw _ _ (by decide)];rw[show jC Bz 91 [.int .i64 (n:Int)]=ER [.int .i64 (n:Int)]by simp[jC,Bz]];unfold ER;simp only;rw[if_pos ⟨by omega,by omega⟩];unfold Lib.itoa;rw[if_neg (by omega),aPh]
theorem XE{s:List UInt8}{n:Nat}(h:n<=1000)(hs:s.length<=1000):aP E 92 [.str s,.int .i64 (n:Int)]=some (.str (Lib.repeatL s n)):=by
 refine o7 ?_ aus;rw[C.Uw _ _ (by decide)];rw[show jC Bz 92 [.str s,.int .i64 (n:Int)]=M0 [.str s,.int .i64 (n:Int)]by simp[jC,Bz]];unfold M0;simp only
 have:s.length*n<=1000*1000:=aQY hs h
 rw[if_pos ⟨by omega,by omega,by rw[aPh];omega⟩,aPh]
theorem Ig:∀{l:List (List UInt8)},I6 (l.map AV.str)=some l
 |[]=>rfl
 |x::l=>by rw[aLJ,I6,Ig];rfl
theorem PN:∀{l:List (List UInt8)},Lib.join l []=l.flatten
 |[]=>rfl
 |x::l=>by
  rw[Lib.join_cons];simp[Lib.joinTail]
theorem TI{l:List (List UInt8)}(h:2<=l.length)(hl:l.length<=140737488355328)(dY:0<l.flatten.length)(hb:l.flatten.length<=281474976710656):aP E 94 [.aK (l.map AV.str) l.length,.str []]=some (.str l.flatten):=by refine o7 ?_ aAc;rw[C.Uw _ _ (by decide)];rw[show jC Bz 94 [.aK (l.map AV.str) l.length,.str []]=Cb [.aK (l.map AV.str) l.length,.str []]by simp[jC,Bz]];unfold Cb;simp only;rw[if_pos ⟨by simp,h,hl⟩];simp only[Ig,PN];rw[if_pos ⟨dY,hb⟩]
theorem yZ{s c:List UInt8}(hc:c.all (fun b=>decide (b.toNat<128))=true)(hl:c.length<1000)(hs:s.length<=9223372036854775807):aP E 118 [.str s,.str c]=some (.str (Lib.trimS s c)):=by refine o7 ?_ amd;rw[C.Uw _ _ (by decide)];rw[show jC Bz 118 [.str s,.str c]=Fx [.str s,.str c]by simp[jC,Bz]];unfold Fx;simp only;rw[if_pos ⟨hc,by omega,hs⟩]
theorem Ed{s c:List UInt8}:aP E 117 [.str s,.str c]=some (.str (Lib.trimPrefix s c)):=by refine o7 ?_ apt;rw[C.Uw _ _ (by decide)];rw[show jC Bz 117 [.str s,.str c]=qF [.str s,.str c]by simp[jC,Bz]];rfl
theorem E4{s c:List UInt8}:aP E 156 [.str s,.str c]=some (.tuple [.str (Lib.trimPrefix s c),.bool (Lib.hasPrefix s c)]):=by refine o7 ?_ apj;rw[C.Uw _ _ (by decide)];rw[show jC Bz 156 [.str s,.str c]=sD [.str s,.str c]by simp[jC,Bz]];rfl
theorem E8{s:List UInt8}{u:Nat}(hs:s.length<=9223372036854775806)(h:Lib.parseUintB 32 s=.ok u):aP E 159 [.str s,.int .i64 10,.int .i64 32]=some (.tuple [.int .u64 u,.nilIface]):=by refine o7 ?_ aqy;rw[C.Uw _ _ (by decide)];rw[show jC Bz 159 [.str s,.int .i64 10,.int .i64 32]=ph [.str s,.int .i64 10,.int .i64 32]by simp[jC,Bz]];unfold ph;simp only;rw[if_pos ⟨trivial,trivial,hs⟩,h]
theorem Hr{s:List UInt8}(h:s.all (fun b=>decide (48<=b.toNat/\b.toNat<=57))=true)(hs:s.length<=281474976710656):aP E 157 [.str s,.func 158 [] []]=some (.bool false):=by refine o7 ?_ alD;rw[C.Uw _ _ (by decide)];rw[show jC Bz 157 [.str s,.func 158 [] []]=rE 158 [.str s,.func 158 [] []]by simp[jC,Bz]];unfold rE;simp only;rw[if_pos ⟨trivial,h,hs⟩]
def rv(cs:List AV):Nat->List AV
 |0=>cs
 |i+1=>((rv cs i).set i ((rv cs i).getD (cs.length-1-i) aZ)).set (cs.length-1-i) ((rv cs i).getD i aZ)
theorem B8{cs:List AV}:∀{i:Nat},(rv cs i).length=cs.length
 |0=>rfl
 |i+1=>by rw[rv,aO8,aO8,B8]
theorem FW{cs:List AV}:∀{i k:Nat},2*i<=cs.length->k<cs.length->(rv cs i).getD k aZ=if k<i∨cs.length-1-i<k then cs.getD (cs.length-1-k) aZ else cs.getD k aZ
 |0,k,_,hk=>by rw[if_neg (by omega)];rfl
 |i+1,k,h,hk=>by
  have e1:=FW (cs:=cs) (i:=i) (k:=k) (by omega) hk;have e2:=FW (cs:=cs) (i:=i) (k:=cs.length-1-i) (by omega) (by omega);have e3:=FW (cs:=cs) (i:=i) (k:=i) (by omega) (by omega);rw[if_neg (by omega)]at e2 e3;rw[rv,e2,e3];simp only[aQP,List.getElem?_set,aO8,B8];by_cases h1:cs.length-1-i=k
  ·rw[if_pos h1,if_pos (by omega),if_pos (by omega),show cs.length-1-k=i by omega];rfl
  ·rw[if_neg h1];by_cases h2:i=k
   ·rw[if_pos h2,if_pos (by omega),if_pos (by omega),<-h2];rfl
   ·rw[if_neg h2];simp only[aQP]at e1;rw[e1];by_cases h3:k<i∨cs.length-1-i<k
    ·rw[if_pos h3,if_pos (by omega)]
    ·rw[if_neg h3,if_neg (by omega)]
theorem ahk{cs:List AV}{i:Nat}(h:2*i<=cs.length)(h2:cs.length-1-i<=i):rv cs i=cs.reverse:=by
 refine aRt (by rw[B8,aRm]) fun k h3 h4=>?_
 rw[B8]at h3;have e:=FW h h3;rw[List.getElem_reverse];rw[aQP,aL5 (by rw[B8];exact h3),aMp]at e;rw[e];by_cases h5:k<i∨cs.length-1-i<k
 ·rw[if_pos h5,aQP,aL5 (by omega),aMp]
 ·rw[if_neg h5,aQP,aL5 (by omega),aMp];congr 1;omega
theorem Zi{cs:List AV}(h:∀v∈cs,df v=true):∀{i:Nat},2*i<=cs.length->∀k,k<cs.length->df ((rv cs i).getD k aZ)=true:=by
 intro i hi k hk;rw[FW hi hk]
 split
 ·exact h _ (by rw[aQP,aL5 (by omega),aMp];exact aMn _)
 ·exact h _ (by rw[aQP,aL5 (by omega),aMp];exact aMn _)
theorem ES{H:Hp}{b o:Nat}{cs:List AV}(hb:b<H.length)(ho:o<cs.length):cellAt (H.set b (.cells .live cs)) b o=some (cs.getD o aZ):=by rw[iX];simp[hb,aL5 ho]
theorem GX{v:AV}(h:df v=true):v.cells=[v]:=by cases v<;>first|rfl|(simp[df]at h;done)
theorem LR{H:Hp}{b o:Nat}{cs:List AV}{v:AV}(hb:b<H.length)(ho:o<cs.length)(hv:df v=true):mK 1 v.cells (H.set b (.cells .live cs)) b o=some (.cells .live (cs.set o v)):=by
 rw[kH,GX hv];simp[hb,hv];refine⟨by omega,?_⟩;rw[gb,List.set_eq_take_append_cons_drop,if_pos ho]
 simp
theorem Xm{H:Hp}{b:Nat}{x y:cz}(hb:b<H.length):eE (H.set b x) b y=H.set b y:=by
 rw[kD (by simpa using hb)];simp
theorem Kk{H0:Hp}{b n:Nat}{cs:List AV}(hb:b<H0.length)(h:H0[b]?=some (.cells .live cs))(hn:cs.length=n)(h0:0<n)(Ao:n<1000000000000)(ho:∀v∈cs,df v=true):
  ∃r H',de E 93 [.aI b 0 n 1 n] H0=some (r,H')/\H'=H0.set b (.cells .live cs.reverse):=by
 refine RL (by rw[C.sj]) (by rw[C.fn];exact ayR) (by decide) ?_;intro ts hl g0;have T:=jb C.toOver;unfold c93;have hH0:H0=H0.set b (.cells .live (rv cs 0)):=by obtain⟨iH,hx⟩:=List.getElem?_eq_some_iff.1 h;rw[rv,<-hx,List.set_getElem_self]
 have w1:aX .i64 ((n:Int)-1)=((n-1:Nat):Int):=by rw[wrap_i64 (by omega) (by omega)];omega
 simp only[↓aN,aO,aJ,aa,ae,Tryz.f93,hl,g0,w1];refine ft (fun k_ ts H=>∃i,k_=n-i/\ts.length=28/\gt ts 0=.aI b 0 n 1 n/\gt ts 2=.int .i64 (i:Int)/\gt ts 3=.int .i64 ((n-1-i:Nat):Int)/\H=H0.set b (.cells .live (rv cs i))/\(2*i<=n)) (n) ?_ ?_
 rotate_left
 ·refine⟨0,(by first|omega|rfl|(simp;done)),(by simp only[cP,hl]),?_⟩;simp only[cR,hl,aa,ae,g0]
  iterate 4 refine⟨by first|trivial|rfl|(congr 1;omega)|(simp;done)|(simp;omega),?_⟩
  ·omega
 clear hl g0 ts;rintro k_ ts H ⟨i,rfl,hl,g0,g2,g3,rfl,hi⟩;refine VS ?_;have hrl:(rv cs i).length=n:=by rw[B8,hn]
 by_cases hd:i<n-1-i
 ·have dd:decide ((i:Int)<((n-1-i:Nat):Int))=true:=b8 (by omega);have c1:((i:Int)<(n:Int))=True:=eq_true (by omega);have c2:(((n-1-i:Nat):Int)<(n:Int))=True:=eq_true (by omega);have w4:aX .i64 ((i:Int)+1)=((i+1:Nat):Int):=by rw[wrap_i64 (by omega) (by omega)];omega
  have w5:aX .i64 (((n-1-i:Nat):Int)-1)=((n-1-(i+1):Nat):Int):=by rw[wrap_i64 (by omega) (by omega)];omega
  have l1:=ES (H:=H0) (cs:=rv cs i) hb (o:=n-1-i) (by omega);have l2:=ES (H:=H0) (cs:=rv cs i) hb (o:=i) (by omega);have o1:=Zi ho (i:=i) (by omega) (n-1-i) (by omega);have o2:=Zi ho (i:=i) (by omega) i (by omega);have VK:rv cs (i+1)=((rv cs i).set i ((rv cs i).getD (n-1-i) aZ)).set (n-1-i) ((rv cs i).getD i aZ):=by rw[rv,hn]
  generalize(rv cs i).getD (n-1-i) aZ=x at*;generalize(rv cs i).getD i aZ=y at*;have s1:=LR (H:=H0) (cs:=rv cs i) (v:=x) hb (o:=i) (by omega) o1;have s2:=LR (H:=H0) (cs:=(rv cs i).set i x) (v:=y) hb (o:=n-1-i) (by rw[aO8];omega) o2;have p1:=fun x y=>Xm (x:=x) (y:=y) hb
  simp only[↓aN,aO,aJ,↓reduceIte,aa,ah,ae,hl,g0,g2,g3,dd,c1,c2,w4,w5,l1,l2,s1,s2,p1];rw[<-VK];refine dG ?_;refine⟨_,?_,i+1,rfl,(by simp only[cP,hl]),?_⟩
  ·first|omega|(simp;omega)
  simp only[cR,hl,aa,ae,g0]
  iterate 4 refine⟨by first|trivial|rfl|(congr 1;omega)|(simp;done)|(simp;omega),?_⟩
  ·omega
 ·have dd:decide ((i:Int)<((n-1-i:Nat):Int))=false:=cg (by omega);simp only[↓aN,aO,↓reduceIte,aa,ae,hl,g2,g3,dd];rw[ahk (by omega) (by omega)]
def Ec:Nat->Nat->List UInt8
 |0,_=>[]
 |k+1,u=>Ec k (u/10)++[UInt8.ofNat (48+u%10)]
theorem FF{u:Nat}(h:¬u<10):Lib.decDigits u=Lib.decDigits (u/10)++[UInt8.ofNat (48+u%10)]:=by rw[Lib.decDigits,dif_neg h]
theorem LV:∀(k q r:Nat),r<10^k->0<q->Lib.decDigits (q*10^k+r)=Lib.decDigits q++Ec k r
 |0,q,r,h,hq=>by
  have:r=0:=by simpa using h
  subst this;simp[Ec]
 |k+1,q,r,h,hq=>by
  have hp:0<10^k:=Nat.pow_pos (by omega);rw[aPA]at h⊢;have h10:10<=q*(10^k*10):=by
   have:1*(1*10)<=q*(10^k*10):=aQY hq (aQY hp (aKR _))
   omega
  have e:q*(10^k*10)=10*(q*10^k):=by ac_rfl
  rw[FF (by omega),e,show(10*(q*10^k)+r)/10=q*10^k+r/10 by omega,show(10*(q*10^k)+r)%10=r%10 by omega,LV k q (r/10) (by omega) hq,Ec,aRd]
theorem Jo:∀k,Ec k 0=aK3 k 48
 |0=>rfl
 |k+1=>by
  rw[Ec,Nat.zero_div,Jo k,List.replicate_succ'];rfl
theorem Xd:∀(k r:Nat),0<k->r<10^k->Ec k r=aK3 (k-Lib.nDigits r) 48++Lib.decDigits r
 |0,r,h,_=>by omega
 |k+1,r,_,h=>by
  by_cases hr:r<10
  ·rw[Ec,aQ5 hr,Jo,Lib.nDigits_small hr,Lib.decDigits_one hr,aPz hr];rfl
  ·rw[aPA]at h;have hk:0<k:=by
    refine aQ1 fun e=>?_
    subst e;omega
   rw[Ec,Xd k (r/10) hk (by omega),Lib.nDigits_big hr,FF hr,aRd,show k+1-(Lib.nDigits (r/10)+1)=k-Lib.nDigits (r/10)by omega]
theorem uI:∀(k u:Nat),0<k->u<10^k->Lib.nDigits u<=k
 |0,u,h,_=>by omega
 |k+1,u,_,h=>by
  by_cases hr:u<10
  ·rw[Lib.nDigits_small hr];omega
  ·rw[aPA]at h;have hk:0<k:=by
    refine aQ1 fun e=>?_
    subst e;omega
   rw[Lib.nDigits_big hr]
   have:=uI k (u/10) hk (by omega)
   omega
theorem anB(n:Nat):Lib.repeatL [48] n=aK3 n 48:=by
 have:=Lib.repeatL_replicate 48 1 n
 simpa using this
theorem Pa{l:List Nat}(h:∀d∈l,d<4294967296):val l<10^(10*l.length):=by have h1:=oQ h;refine aNt h1 ?_;rw[Nat.pow_mul];exact aRn (by decide) _
theorem O7{s:List UInt8}:aP E 94 [.aK [.str s] 1,.str []]=some (.str s):=by refine dX ?_;refine gv2 (by rw[C.Uw _ _ (by decide)];simp[jC,Bz,Cb]) (by rw[C.fn];exact auQ) rfl (by decide) ?_;intro ts hl g0 g1;unfold c94;have hp:fD false 1 [AV.str s] 0=some (.str s):=rfl;simp only[↓aN,aO,aJ,↓reduceIte,aa,ae,an,ao,aq,Tryz.f94,aD,hl,g0,hp]
theorem EE{E:Env}{c:Bool}{t:Nat}{a b:List UInt8}(h:a.length+b.length<=9223372036854775807):dC E c .add t (.str a) (.str b)=some (.str (a++b)):=by
 show X0 .add a b=_
 unfold X0;simp only;rw[if_neg (by omega)]
theorem xK{s:List UInt8}:bR (.str s)=true:=rfl
theorem bsS{aL:Nat}{s:List UInt8}:aT E aL 54 1 [(0,.str s)]=some (.aI aL 0 1 1 1,[(aL,.cells .live [.str s])]):=ee Mm rfl (by decide) (by decide) rfl
theorem Jd{v:AV}{z:Int}(h:fm v z)(fx:Fit z):aP E 51 [v]=some (.str (Lib.itoa z)):=by
 refine dX ?_;obtain⟨na,m,a,rfl,hm,hn,tq,rfl⟩:=h;have la:=xj hn oO fx;refine nY ayu ?_;intro ts hl g0;have T:=jb C.toOver;unfold c51;by_cases h0:a=[]
 ·subst h0;have hna:na=false:=by cases na with
   |false=>rfl
   |true=>exact absurd rfl (tq rfl)
  subst hna;simp only[↓aN,aO,aJ,↓reduceIte,aa,ae,Tryz.f51,hl,g0,iC hm];simp[val,Lib.itoa,Lib.decDigits]
 have ha:0<a.length:=aQS.2 h0;have hd0:((a.length:Int)==0)=false:=by rw[beq_eq_false_iff_ne];omega
 simp only[↓aN,aO,aJ,aa,ae,Tryz.f51,hl,g0,iC hm,hd0];refine ft (fun k_ ts H=>∃cv cl w HH G,k_=0+val cl/\ts.length=49/\gt ts 1=.b9 0 0/\gt ts 3=w/\gt ts 4=cv/\H=HH/\(fN cv cl)/\(Norm cl)/\(cl.length<10000000000)/\(wW 1 1 w HH G.length (G.map AV.str))/\(HH[0]?=some (.cells .live [.bool na,m]))/\(1<=HH.length)/\(val cl*1000000000^G.length<=val a)/\(cl≠[]->Lib.decDigits (val a)=Lib.decDigits (val cl)++G.reverse.flatten)/\(cl=[]->Lib.decDigits (val a)=G.reverse.flatten/\G≠[])/\(G.length<=2*a.length)) (val a) ?_ ?_
 rotate_left
 ·refine⟨m,a,.aH,[.cells .live [.bool na,m]],[],(by first|omega|rfl|(simp;done)),(by simp only[cP,hl]),?_⟩;simp only[cR,hl,aa,ae]
  iterate 4 refine⟨by first|trivial|rfl|(congr 1;omega)|(simp;done)|(simp;omega),?_⟩
  refine⟨?_,?_,?_,?_,?_,?_,?_,?_,?_,?_⟩
  ·exact hm
  ·exact hn
  ·exact la
  ·exact .inl ⟨rfl,rfl,rfl⟩
  ·rfl
  ·simp
  ·simp
  ·intro _;simp
  ·intro e;exact absurd e h0
  ·simp
 clear hl g0 ts;rintro k_ ts H ⟨cv,cl,w,HH,G,rfl,hl,g1,g3,g4,rfl,Hk,ncl,lcl,sT,qM,hlen,hpw,htx,htz,hgl⟩;refine VS ?_;have vL:cellAt H 0 1=some m:=by rw[iX,qM];simp
 have HR:cellAt H 0 0=some (.bool na):=by rw[iX,qM];simp
 by_cases VT:cl=[]
 ·subst VT;obtain⟨ahp,au0⟩:=htz rfl;have hdc:decide (((([]:List Nat).length:Nat):Int)>0)=false:=rfl;have hGp:0<G.length:=aQS.2 au0;rcases sT with⟨hG0,_⟩|⟨hG0,b,vO,Ao,rfl,Lg⟩
  ·omega
  have so:∀v∈G.map AV.str,df v=true:=by intro v hv;obtain⟨s,_,rfl⟩:=List.mem_map.1 hv;rfl
  obtain⟨r,H',apx,rfl⟩:=Kk (E:=E) Ao Lg (by simp) hGp (by omega) so;have arp:(H.set b (.cells .live (G.map AV.str).reverse))[0]?=some (.cells .live [.bool na,m]):=by rw[aNh (by omega)];exact qM
  have ajX:cellAt (H.set b (.cells .live (G.map AV.str).reverse)) 0 0=some (.bool na):=by rw[iX,arp];simp
  have gg:ow false (H.set b (.cells .live (G.map AV.str).reverse)) [.aI b 0 G.length 1 G.length,.str []]=some ([.aK (G.map AV.str).reverse G.length,.str []],[b]):=by
   refine Wk (y:=.str []) (st:=.live) (by rw[aNl Ao]) (by decide) (by simp) ?_ (fun _ _=>rfl);intro v hv;obtain⟨s,_,rfl⟩:=List.mem_map.1 (List.mem_reverse.1 hv);exact fun _ _=>rfl
  have hdl:(Lib.decDigits (val a)).length<=10*a.length:=by rw[Lib.decDigits_length];exact uI _ _ (by omega) (Pa hm.1)
  have Sa:0<(Lib.decDigits (val a)).length:=by rw[Lib.decDigits_length];exact Lib.nDigits_pos _
  have aeV:aP E 94 [.aK (G.map AV.str).reverse G.length,.str []]=some (.str (Lib.decDigits (val a))):=by
   rw[ahp];by_cases h1:G.length=1
   ·obtain⟨s,rfl⟩:=List.length_eq_one_iff.1 h1;simpa using O7 (E:=E) (s:=s)
   ·have:=TI (E:=E) (l:=G.reverse) (by simp;omega) (by simp;omega) (by rw[<-ahp];exact Sa) (by rw[<-ahp];omega)
    rw[List.map_reverse,aRm]at this;exact this
  have Hf:cellAt (cE.app (H.set b (.cells .live (G.map AV.str).reverse)) (cE.looks [b])) 0 0=some (.bool na):=ajX;cases na with
  |false=>
   simp only[↓aN,aO,↓aQ,aJ,↓reduceIte,aa,ae,ar,hl,g1,g3,g4,iC Hk,apx,gg,aeV,ajX,xK];unfold Lib.itoa;rw[if_neg (by simp),aPh]
  |true=>
   have hva:0<val a:=uW hn h0;have akf:∀{c:Bool} {t:Nat},dC E c .add t (.str [45]) (.str (Lib.decDigits (val a)))=some (.str ([45]++Lib.decDigits (val a))):=by intro c t;refine EE ?_;simp only[aMm,aO9];omega
   simp only[↓aN,aO,↓aQ,aJ,↓reduceIte,aa,ae,ar,hl,g1,g3,g4,iC Hk,apx,gg,aeV,ajX,xK,akf];unfold Lib.itoa;rw[if_pos (by omega)];congr 3;omega
 ·have VH:=uW ncl VT;have aHM:0<cl.length:=aQS.2 VT;have hdc:decide (((cl.length:Nat):Int)>0)=true:=b8 (by omega);obtain⟨r0,F2,ql,hq,hqn,Tp⟩:=F1 C Hk (by omega) (m:=1000000000) (by omega) (by omega);rw[show((1000000000:Nat):Int)=1000000000 from rfl]at F2;have hr9:val cl%1000000000<1000000000:=aQU _ (by omega);have wr:aX .i64 ((val cl%1000000000:Nat):Int)=((val cl%1000000000:Nat):Int):=qN (by omega);have hit:=Uo (E:=E) (n:=val cl%1000000000) (by omega);have hnd:=uI 9 (val cl%1000000000) (by omega) (by omega);have hnp:=Lib.nDigits_pos (val cl%1000000000);have hdl:=Lib.decDigits_length (val cl%1000000000);have Sv:=aRf (val cl) 1000000000;have hG1:1000000000^G.length<=val a:=aNm (Nat.le_mul_of_pos_left _ VH) hpw;have hGb:G.length<2*a.length:=by
   have h1:=oQ hm.1;have h2:65536^G.length<=1000000000^G.length:=aRn (by omega) _;have h3:(4294967296:Nat)^a.length=65536^(2*a.length):=by rw[Nat.pow_mul]
   rw[h3]at h1;exact(aQW (by omega)).1 (aQQ h2 (aQQ hG1 h1))
  have agU:10^9=1000000000:=rfl;have Ox:ql.length<10000000000:=by
   have:=oY Hk.1 hqn (by rw[Tp];exact aQ9 _ _)
   omega
  have alV:val ql*1000000000^(G.length+1)<=val a:=by refine aNm ?_ hpw;rw[Tp,aPA,aPT (1000000000^G.length),<-aPv];exact aLL _ (aRb _ _)
  have arV:=htx VT;by_cases ad8:ql=[]
  ·subst ad8;have Y6:decide (((([]:List Nat).length:Nat):Int)>0)=false:=rfl;have V9:val cl/1000000000=0:=by rw[<-Tp];rfl
   have Gn:val cl%1000000000=val cl:=aPz (by omega);obtain⟨v',bU,iR,Di,zz,EI⟩:=K4 (E:=E) (H:=H) (x:=[.str (Lib.decDigits (val cl%1000000000))]) Mm (by decide) sT (by simp) rfl rfl (by unfold gO;omega) (by omega) hlen;simp only[↓aN,aO,↓aQ,aJ,↓reduceIte,aa,ae,↓iM iB kd3,ar,hl,g3,g4,iC Hk,iC hq,aM Hk,hdc,F2,hit,wr,xK,bsS,ep,iR];generalize cE.app _ (cE.bU bU)=H2 at Di zz EI⊢;refine dG ?_;refine⟨_,?_,r0,[],v',H2,G++[Lib.decDigits (val cl%1000000000)],rfl,(by simp only[cP,hl]),?_⟩
   ·first|omega|(simp;omega)
   simp only[cR,hl,aa,ae,g1]
   iterate 4 refine⟨by first|trivial|rfl|(congr 1;omega)|(simp;done)|(simp;omega),?_⟩
   refine⟨?_,?_,?_,?_,?_,?_,?_,?_,?_,?_⟩
   ·exact hq
   ·exact hqn
   ·simp
   ·simpa using Di
   ·rw[zz 0 (by omega)];exact qM
   ·exact EI
   ·simpa using alV
   ·intro e;exact absurd trivial e
   ·intro _;refine⟨?_,by simp⟩;rw[arV,Gn]
    simp
   ·simp;omega
  ·have hqp:0<ql.length:=aQS.2 ad8;have ayn:=uW hqn ad8;have Y6:decide (((ql.length:Nat):Int)>0)=true:=b8 (by omega);have Jv:=Xd 9 (val cl%1000000000) (by omega) (by omega);have ws:aX .i64 (9-((Lib.decDigits (val cl%1000000000)).length:Int))=((9-Lib.nDigits (val cl%1000000000):Nat):Int):=by rw[hdl,wrap_i64 (by omega) (by omega)];omega
   have aoP:=XE (E:=E) (s:=[48]) (n:=9-Lib.nDigits (val cl%1000000000)) (by omega) (by simp);rw[anB]at aoP;have akf:∀{c:Bool} {t:Nat},dC E c .add t (.str (aK3 (9-Lib.nDigits (val cl%1000000000)) 48)) (.str (Lib.decDigits (val cl%1000000000)))=some (.str (Ec 9 (val cl%1000000000))):=by intro c t;rw[Jv];refine EE ?_;rw[hdl,List.length_replicate];omega
   obtain⟨v',bU,iR,Di,zz,EI⟩:=K4 (E:=E) (H:=H) (x:=[.str (Ec 9 (val cl%1000000000))]) Mm (by decide) sT (by simp) rfl rfl (by unfold gO;omega) (by omega) hlen;have qo:=LV 9 (val ql) (val cl%1000000000) (by omega) ayn;rw[show val ql*10^9+val cl%1000000000=val cl by rw[Tp];omega]at qo;simp only[↓aN,aO,↓aQ,aJ,↓reduceIte,aa,ae,↓iM iB kd3,hl,g3,g4,iC Hk,iC hq,aM Hk,hdc,Y6,F2,hit,wr,ws,aoP,akf,xK,bsS,ep,iR];generalize cE.app _ (cE.bU bU)=H2 at Di zz EI⊢;refine dG ?_;refine⟨_,?_,r0,ql,v',H2,G++[Ec 9 (val cl%1000000000)],rfl,(by simp only[cP,hl]),?_⟩
   ·first|omega|(simp;omega)
   simp only[cR,hl,aa,ae,g1]
   iterate 4 refine⟨by first|trivial|rfl|(congr 1;omega)|(simp;done)|(simp;omega),?_⟩
   refine⟨?_,?_,?_,?_,?_,?_,?_,?_,?_,?_⟩
   ·exact hq
   ·exact hqn
   ·exact Ox
   ·simpa using Di
   ·rw[zz 0 (by omega)];exact qM
   ·exact EI
   ·simpa using alV
   ·intro _;rw[arV,qo]
    simp
   ·intro e;exact absurd e ad8
   ·simp;omega
def lJ(b:UInt8):Bool:=decide (48<=b.toNat/\b.toNat<=57)
def dv(acc:Nat)(l:List UInt8):Nat:=l.foldl (fun a c=>a*10+(c.toNat-48)) acc
theorem FL{acc:Nat}:dv acc []=acc:=rfl
theorem uC{acc:Nat}{c:UInt8}{r:List UInt8}:dv acc (c::r)=dv (acc*10+(c.toNat-48)) r:=by unfold dv;rw[aMa]
theorem Jk{a b:List UInt8}:∀{acc:Nat},dv acc (a++b)=dv (dv acc a) b:=by intro acc;unfold dv;rw[List.foldl_append]
theorem GJ:∀{l:List UInt8} {acc:Nat},dv acc l=acc*10^l.length+dv 0 l
 |[],acc=>by simp[FL]
 |c::r,acc=>by
  rw[uC,uC,GJ (l:=r),GJ (l:=r) (acc:=0*10+(c.toNat-48)),aMm,aPA,Nat.zero_mul,aLM,aLS]
  have:acc*10*10^r.length=acc*(10^r.length*10):=by ac_rfl
  omega
theorem I7:∀{l:List UInt8},(∀b∈l,lJ b=true)->dv 0 l<10^l.length
 |[],_=>by simp[FL]
 |c::r,h=>by
  have h1:=I7 (l:=r) fun b hb=>h b (by simp[hb])
  have h2:=h c (by simp);simp only[lJ,decide_eq_true_eq]at h2;rw[uC,GJ,aMm,aPA,Nat.zero_mul,aLM]
  have:(c.toNat-48)*10^r.length<=9*10^r.length:=aLL _ (by omega)
  omega
theorem afQ:∀{l:List UInt8} {acc:Nat},acc<=dv acc l
 |[],_=>aKR _
 |c::r,acc=>aNm (by omega) (afQ (l:=r) (acc:=acc*10+(c.toNat-48)))
theorem Jp{M:Nat}(hM:M<1844674407370955162):∀{l:List UInt8} {acc:Nat},(∀b∈l,lJ b=true)->dv acc l<=M->Lib.parseUintM M acc l=.ok (dv acc l)
 |[],_,_,_=>rfl
 |c::r,acc,h,hle=>by
  have h2:=h c (by simp);simp only[lJ,decide_eq_true_eq]at h2;rw[uC]at hle⊢;have h3:=afQ (l:=r) (acc:=acc*10+(c.toNat-48));unfold Lib.parseUintM;rw[if_pos h2,if_neg (by omega),if_neg (by omega)];exact Jp hM (fun b hb=>h b (by simp[hb])) hle
theorem Vm{l:List UInt8}(h:∀b∈l,lJ b=true)(dY:l≠[])(hl:l.length<=9):Lib.parseUintB 32 l=.ok (dv 0 l):=by unfold Lib.parseUintB;rw[if_neg dY];refine Jp (by decide) h ?_;have h1:=I7 h;have h2:10^l.length<=10^9:=aQT (by omega) hl;omega
theorem Jt:∀(n:Nat),∀b∈Lib.decDigits n,lJ b=true:=by
 intro n;induction n using aRg with
 |_ n ih=>
  intro b hb;by_cases h:n<10
  ·rw[Lib.decDigits_one h]at hb;simp only[aMh]at hb;subst hb;simp only[lJ,UInt8.toNat_ofNat',decide_eq_true_eq];omega
  ·rw[FF h]at hb;rcases List.mem_append.1 hb with h1|h1
   ·exact ih _ (by omega) b h1
   ·simp only[aMh]at h1;subst h1;simp only[lJ,UInt8.toNat_ofNat',decide_eq_true_eq];omega
theorem S4:∀(n:Nat),dv 0 (Lib.decDigits n)=n:=by
 intro n;induction n using aRg with
 |_ n ih=>
  by_cases h:n<10
  ·rw[Lib.decDigits_one h];simp only[uC,FL,UInt8.toNat_ofNat'];omega
  ·rw[FF h,Jk,ih _ (by omega)];simp only[uC,FL,UInt8.toNat_ofNat'];omega
theorem RJ:∀(n:Nat),0<n->(Lib.decDigits n).head?≠some 48:=by
 intro n;induction n using aRg with
 |_ n ih=>
  intro hn;by_cases h:n<10
  ·rw[Lib.decDigits_one h];intro e;simp only[List.head?_cons,Option.some.injEq]at e
   have:=congrArg UInt8.toNat e
   simp only[UInt8.toNat_ofNat']at this;have h48:(48:UInt8).toNat=48:=rfl;omega
  ·rw[FF h];have h1:=ih (n/10) (by omega) (by omega);have dY:Lib.decDigits (n/10)≠[]:=by
    intro e
    have:=congrArg List.length e
    rw[Lib.decDigits_length]at this
    have:=Lib.nDigits_pos (n/10)
    simp at*;omega
   rw[List.head?_append];obtain⟨x,xs,hx⟩:=List.exists_cons_of_ne_nil dY;rw[hx]at h1⊢;simp only[List.head?_cons,Option.some_or]at h1⊢;exact h1
end Go.Proofs.YtblnjkjjedanaaaGreatDoor
