/- Lemmas for AssemblyRefuses; no condition. -/
import Derived.Test.YtmkjgfnicfpjpaaGreatDoorRao
set_option linter.all false
set_option maxHeartbeats 100000000
set_option maxRecDepth 100000
noncomputable section
open Nat renaming mul_add->aRe,mul_le_mul_left->aRE,pow_succ->aRu,two_pow_pos->aSO,mul_comm->aSP,lt_of_le_of_lt->aSQ,mul_le_mul_right->aLZ,mod_lt->aSR,le_refl->aLt,lt_of_lt_of_le->aN0,mul_assoc->aRv,pow_le_pow_right->aSS,add_zero->aPm,mod_eq_of_lt->aSm,lt_of_mul_lt_mul_left->aSU,mul_zero->aRF,pow_lt_pow_iff_right->aSV,pow_add->aSX,add_comm->aSZ,shiftLeft_add_eq_or_of_lt->aS0,add_mul->aLX,mul_one->aRH,mul_lt_mul_of_pos_right->aS2,div_eq_of_lt->aS3,le_of_not_lt->aS4,mod_add_div->aS5,div_le_self->aS6,min_eq_left->aS7,mul_le_mul->aS8,mul_mod_mul_right->aS9,div_lt_iff_lt_mul->aTa,add_mul_div_right->aTb,div_lt_of_lt_mul->aTc,div_mul_le_self->aTe,mul_div_cancel->aTf,pos_of_ne_zero->aTg,add_sub_cancel->aTh,one_mul->aTj,reduceLT->aa,reduceEqDiff->ae,reduceAdd->ah,reduceBEq->aj
open List renaming getD->aRt,length_take->aPl,getElem?_set_self->aOl,getElem?_set_ne->aOj,mem_of_mem_take->aRC,getElem?_eq_getElem->aL6,drop_of_length_le->aSY,take_of_length_le->aPk,length_drop->aPj,getElem?_eq_none->aLv,take_append_drop->aPr,length_pos_iff->aS1,drop_eq_getElem_cons->aRx,take_length->aPo,length_nil->aQ9,take_set_of_le->aTd,getElem?_drop->aLy
open Int renaming toNat_natCast->aRs,natCast_add->aSo,mul_le_mul_of_nonneg_left->aST,natCast_mul->aSn,natCast_dvd_natCast->aSW,emod_eq_of_lt->aTi,reduceLT->aq,reduceToNat->ar,reduceGT->au,reduceBEq->aD,reduceBNe->aE
open Bool renaming false_eq_true->aLT
namespace Go.Proofs.YtmkjgfnicfpjpaaGreatDoor
open Go Dv
variable{E:Env}[C:Ctx E]
def lI{v:AV}{l:List Nat}(h:eB v l):lH v=some (l.length:Int):=by
 rcases h.2 with rfl|⟨rfl,rfl|rfl⟩<;>rfl
def Og{d n:Nat}(hd:d<4294967296)(hn:n<32):d*2^n<9223372036854775808:=by have h1:2^n<=2^31:=aSS (by omega) (by omega);have h2:d*2^n<=4294967295*2^31:=aS8 (by omega) h1;omega
def aeP{d n:Nat}(hn:n<32):∃q,d*2^n%4294967296=q*2^n:=by
 refine⟨d%2^(32-n),?_⟩
 have:(4294967296:Nat)=2^(32-n)*2^n:=by rw[<-aSX,show 32-n+n=32 by omega]
 rw[this,aS9]
def Zk{r d n:Nat}(hr:r<2^n)(hn:n<32):(r|||(d*2^n%4294967296))=r+d*2^n%4294967296:=by
 obtain⟨q,hq⟩:=aeP (d:=d) hn;rw[hq]
 have:=aS0 (i:=n) (b:=r) hr q
 rw[Nat.shiftLeft_eq]at this;rw[Nat.or_comm,<-this,aSZ]
def al8{d n:Nat}(hd:d<4294967296):d*2^n/4294967296<2^n:=by rw[aTa (by omega),aSP];exact Nat.mul_lt_mul_of_pos_left hd (aSO n)
def au1{r d n:Nat}(hr:r<2^n)(hn:n<32):r+d*2^n%4294967296<4294967296:=by rw[<-Zk hr hn];have h1:2^n<=2^32:=aSS (by omega) (by omega);exact Nat.or_lt_two_pow (n:=32) (by omega) (aSR _ (by decide))
def AU{v:AV}{a:List Nat}(ha:eB v a)(la:a.length<10000000001){n:Nat}(hn:n<32){H0:Hp}:
  ∃r H',cV E 189 [v,.int .i64 (n:Int)] H0=some (r,H')/\∃out,r=.aI H0.length 0 (a.length+1) 1 (a.length+1)/\H'=H0++[.cells .live (cB out)]/\out.length=a.length+1/\(∀d∈out,d<4294967296)/\val out=val a*2^n:=by
 refine gi2 (gd C) (by rw[C.fn];exact arv) (by decide) ?_;intro ts hl g0 g1;have T:=gW C.toOver;unfold aoX;have w1:aW .i64 ((a.length:Int)+1)=((a.length+1:Nat):Int):=by rw[wrap_i64];simp
 simp only[↓aL,jg,aJ,aa,ae,gX,cu,Tryz.f189,hl,g0,lI ha,w1,ahh (show a.length+1<=100000000000 by omega),K5,eK];refine cC (fun k_ ts H=>∃i out,k_=a.length-i/\ts.length=40/\gt ts 1=.int .i64 (n:Int)/\gt ts 5=.aI H0.length 0 (a.length+1) 1 (a.length+1)/\gt ts 12=v/\gt ts 13=.int .i64 (a.length:Nat)/\gt ts 14=.int .i64 (i:Nat)/\H=H0++[.cells .live (cB out)]/\(i<=a.length)/\(out.length=a.length+1)/\(∀d∈out,d<4294967296)/\(out.getD i 0<2^n)/\(∀j,i<j->out.getD j 0=0)/\(val (out.take i)+4294967296^i*out.getD i 0=val (a.take i)*2^n)) (a.length) ?_ ?_
 rotate_left
 ·refine⟨0,List.replicate (a.length+1) 0,(by first|omega|rfl|simp),(by simp[bc,hl]),?_⟩;simp only[aY,hl,aa,ae,g1]
  iterate 6 refine cI ?_
  refine⟨?_,?_,?_,?_,?_,?_⟩
  ·first|omega|trivial
  ·first|simp|trivial
  ·first|exact BM|trivial
  ·first|(simp[aRt];exact aSO n)|trivial
  ·first|(intro j hj;rw[aRt,List.getElem?_replicate];split<;>rfl)|trivial
  ·first|simp[val,aRt]|trivial
 clear hl g0 g1 ts;rintro k_ ts H ⟨i,out,rfl,hl,g1,g5,g12,g13,g14,rfl,hi,ho,hd,hr,hz,hv⟩;refine VS ?_;by_cases sK:i<a.length
 ·have oW:decide ((i:Int)<(a.length:Int))=true:=bj;have EL:=ji T ha (k:=.i64) (z:=(i:Int));rw[aRs]at EL;have zZ:=fK sK;have qe:=fA ha.1 (i:=i);generalize hx:a.getD i 0=x at zZ qe;have ik:i<out.length:=by omega
  have Sw:i+1<out.length:=by omega
  have ldo:=fK ik;have asN:=fA hd (i:=i);generalize iU:out.getD i 0=c at ldo hr hv asN;have c1:((i:Int)<((a.length+1:Nat):Int))=True:=eq_true (by omega);have c2:(((i+1:Nat):Int)<((a.length+1:Nat):Int))=True:=eq_true (by omega);have w2:aW .i64 ((i:Int)+1)=((i+1:Nat):Int):=by rw[wrap_i64];simp
  have hm:=Og qe hn;have wx:aW .u64 (x:Int)=x:=wrap_u64;have w3:aW .u64 ((x*2^n:Nat):Int)=((x*2^n:Nat):Int):=wrap_u64;have sh1:∀{cc:Bool} {t:Nat},cp E cc .shl t (.int .u32 (x:Int)) (.int .i64 (n:Int))=some (.int .u32 ((x*2^n%4294967296:Nat):Int)):=by
   intro cc t;rw[xW (show n<=IntKind.u32.bits by show n<=32;omega),wrap_u32]
  have sh2:∀{cc:Bool} {t:Nat},cp E cc .shl t (.int .u64 (x:Int)) (.int .i64 (n:Int))=some (.int .u64 ((x*2^n:Nat):Int)):=by
   intro cc t;rw[xW (show n<=IntKind.u64.bits by show n<=64;omega),w3]
  have hor:∀{cc:Bool} {t:Nat},cp E cc .or t (.int .u32 (c:Int)) (.int .u32 ((x*2^n%4294967296:Nat):Int))=some (.int .u32 ((c+x*2^n%4294967296:Nat):Int)):=by intro cc t;rw[PF asN (aSR _ (by decide)),Zk hr hn]
  have vR:=fun z=>Rv (H:=H0) (z:=z) ik
  have XJ:=fun z=>Rv (H:=H0) (z:=z) (out:=out.set i (c+x*2^n%4294967296)) (j:=i+1) (by simpa using Sw)
  simp only[↓aL,jg,aJ,↓reduceIte,aa,ah,ae,gI,cu,↓ef fX gT,↓ef gT fX,hl,g1,g5,g12,g13,g14,oW,EL,zZ,ldo,IS,c1,c2,w2,wx,sh1,sh2,hor,vR,XJ,Tu,jJ,wrap_u32,AV.cells];refine bI ?_;refine⟨_,?_,i+1,(out.set i (c+x*2^n%4294967296)).set (i+1) (x*2^n/4294967296%4294967296),rfl,(by simp[bc,hl]),?_⟩
  ·first|omega|(simp;omega)
  simp only[aY,hl,aa,ae,g1,g5,g12,g13]
  iterate 6 refine cI ?_
  refine⟨?_,?_,?_,?_,?_,?_⟩
  all_goals have ED:=al8 (n:=n) qe
  all_goals have aHK:2^n<=2^32:=aSS (by omega) (by omega)
  all_goals have aty:x*2^n/4294967296%4294967296=x*2^n/4294967296:=aSm (by omega)
  ·omega
  ·simpa using ho
  ·exact cZ (cZ hd (au1 hr hn)) (aSR _ (by decide))
  ·rw[aRt,aOl (by simpa using Sw),aty];exact ED
  ·intro j hj;rw[aRt,aOj (by omega),aOj (by omega)];exact hz j (by omega)
  ·rw[aTd (aLt _),eH ik,aty];have e0:((out.set i (c+x*2^n%4294967296)).set (i+1) (x*2^n/4294967296)).getD (i+1) 0=x*2^n/4294967296:=by rw[aRt,aOl (by simpa using Sw)];rfl
   rw[e0,cA sK,hx,aLX,<-hv,aRe,aRu,aRv,aRv];have e2:4294967296^i*(x*2^n%4294967296)+4294967296^i*(4294967296*(x*2^n/4294967296))=4294967296^i*(x*2^n):=by rw[<-aRe,aS5]
   omega
 ·have oW:decide ((i:Int)<(a.length:Int))=false:=bh (by omega);obtain rfl:i=a.length:=by omega
  simp only[↓aL,jg,↓reduceIte,aa,ae,hl,g5,g13,g14,oW];refine⟨out,rfl,ho,hd,?_⟩;have h1:=qU (l:=out) (i:=a.length) (by omega);rw[aSY (by omega)]at h1;rw[h1];simp only[val,aRF,aPm];rw[hv,aPk (aLt _)]
def GQ{E:Env}{t n' wE:Nat}{ag:Bool}{z:List AV}(h:ew E t=some (ag,n',wE,z)){c:Bool}{a:AV}(ha:lH a≠none):cp E c .eql t a .aH=some (.bool (match a with|.aH=>true|_=>false)):=by
 obtain⟨i,e,ei,h1,h2,_⟩:=kn h;obtain⟨cD,jA,jS,jB,jZ,dK⟩:=i;simp only at h2;subst h2;cases a<;>first|(exact absurd rfl ha)|simp[cp,cp.sa,nP,h1]
def IN{aR:Nat}:bZ E aR 56 0 []=some (.aI aR 0 0 1 0,[(aR,.cells .live [])]):=by obtain⟨i,e,ei,h1,h2,h3,h4,h5,h6,h7⟩:=kn (Br (E:=E));obtain⟨cD,jA,jS,jB,jZ,dK⟩:=i;simp only at h2;subst h2;simp[bZ,h1,h3,h7,h5,fP,gJ]
def Ti{l:List Nat}:(cB l).all cN=true:=by simp[cB,cN]
def RL{a:List Nat}(ej:0<a.length)(la:a.length<10000000001):bM E [.cells .live []] 1 .append [56,56] [.aI 0 0 0 1 0,.aK (cB a) a.length]=some (.aI 1 0 a.length 1 a.length,[(0,.cells .dead []),(1,.cells .live (cB a))]):=by
 obtain⟨i,e,ei,h1,h2,h3,h4,h5,h6,h7⟩:=kn (Br (E:=E));have hs:oM [.cells .live []] ei.size (.aK (cB a) a.length)=some (cB a):=by simp[oM,iI,nf,h5]
 have:=xT (E:=E) (H:=[.cells .live []]) (aR:=1) (b:=0) (off:=0) (len:=0) (kc:=0) (n:=a.length) (cs:=[]) h1 h2 h3 (x:=.aK (cB a) a.length) rfl hs ej (by omega) Ti (by simp[h7]) (by rw[h6];unfold fH;omega) (by omega) rfl (by omega) (by omega)
 rw[builtin_append h1 h2 rfl];simpa[h5]using this
def L8{v:AV}(hv:v=.dw∨v=.aK [] 0):bM E [.cells .live []] 1 .append [56,56] [.aI 0 0 0 1 0,v]=some (.aI 0 0 0 1 0,[]):=by
 obtain⟨i,e,ei,h1,h2,h3,h4,h5,h6,h7⟩:=kn (Br (E:=E));obtain⟨cD,jA,jS,jB,jZ,dK⟩:=i;simp only at h2;subst h2;rcases hv with rfl|rfl<;>simp[bM,h1,er,h3,sD,mU,oM,iI]
def Mq{a:List Nat}(ej:0<a.length)(la:a.length<10000000001):cV E 233 [.aK (cB a) a.length] []=some (.aI 1 0 a.length 1 a.length,[.cells .dead [],.cells .live (cB a)]):=by
 suffices hh:∃r H',cV E 233 [.aK (cB a) a.length] []=some (r,H')/\(r=.aI 1 0 a.length 1 a.length/\H'=[.cells .dead [],.cells .live (cB a)])by
  obtain⟨r,H',h1,rfl,rfl⟩:=hh;exact h1
 refine gi1 (gd C) (by rw[C.fn];exact agl) (by decide) ?_;intro ts hl g0;unfold aiL;simp only[↓aL,jg,↓reduceIte,aa,ae,Tryz.f233,hl,g0,GQ (Br (E:=E)) (show lH (.aK (cB a) a.length)≠none by simp[lH]),IN,RL ej la,cF.app,List.foldl_cons,List.foldl_nil,cO]
 first|done|trivial|exact⟨rfl,rfl⟩
def IV{v:AV}(hv:v=.aH∨v=.dw∨v=.aK [] 0):∃r H',cV E 233 [v] []=some (r,H')/\((r=.aH/\H'=[])∨(r=.aI 0 0 0 1 0/\H'=[.cells .live []])):=by
 refine gi1 (gd C) (by rw[C.fn];exact agl) (by decide) ?_;intro ts hl g0;unfold aiL;rcases hv with rfl|hv
 ·simp only[↓aL,jg,aa,ae,Tryz.f233,hl,g0,GQ (Br (E:=E)) (show lH .aH≠none by simp[lH])]
  first|trivial|exact .inl ⟨rfl,rfl⟩|exact .inl trivial
 ·have hn:cp E true .eql 56 v .aH=some (.bool false):=by
   rw[GQ (Br (E:=E)) (by rcases hv with rfl|rfl<;>simp[lH])];rcases hv with rfl|rfl<;>rfl
  simp only[↓aL,jg,↓reduceIte,aa,ae,Tryz.f233,hl,g0,hn,IN,L8 hv,cF.app,List.foldl_cons,List.foldl_nil,cO]
  first|trivial|exact .inr ⟨rfl,rfl⟩|exact .inr trivial
def SZ{x y n:Nat}(hx:x<4294967296)(hn:n<32):(x/2^n|||(y*4294967296/2^n%4294967296))=x/2^n+(y%2^n)*2^(32-n)/\x/2^n+(y%2^n)*2^(32-n)<4294967296:=by
 have hp:(4294967296:Nat)=2^(32-n)*2^n:=by rw[<-aSX,show 32-n+n=32 by omega]
 have h1:y*4294967296/2^n=y*2^(32-n):=by
  conv=>lhs;rw[hp,<-aRv]
  exact aTf _ (aSO n)
 have h2:y*2^(32-n)%4294967296=(y%2^n)*2^(32-n):=by
  conv=>lhs;rw[hp,aSP (2^(32-n)) (2^n)]
  exact aS9 _ _ _
 have h3:x/2^n<2^(32-n):=by rw[aTa (aSO n),<-hp];exact hx
 rw[h1,h2];have h4:=aS0 (i:=32-n) (b:=x/2^n) h3 (y%2^n);rw[Nat.shiftLeft_eq]at h4;refine⟨by rw[Nat.or_comm,<-h4,aSZ],?_⟩;have h5:(y%2^n+1)*2^(32-n)<=2^n*2^(32-n):=aLZ _ (aSR _ (aSO n));rw[aLX,aTj,aSP (2^n) (2^(32-n)),<-hp]at h5;omega
def Dh{P Q VO VA x r0:Nat}(Xl:Q*(x/Q)+x%Q=x)(hv:Q*VO+r0=VA+P*(x%Q)):Q*(VO+P*(x/Q))+r0=VA+P*x:=by
 have e2:P*x=P*(Q*(x/Q))+P*(x%Q):=by rw[<-aRe,Xl]
 have e3:Q*(P*(x/Q))=P*(Q*(x/Q)):=by ac_rfl
 rw[aRe,e3];omega
def N9{P Q R B VO VA x y r0:Nat}(hB:B=R*Q)(Xl:Q*(x/Q)+x%Q=x)(hv:Q*VO+r0=VA+P*(x%Q)):Q*(VO+P*(x/Q+y%Q*R))+r0=VA+P*x+P*B*(y%Q):=by
 have h1:=Dh Xl hv;have e1:Q*(VO+P*(x/Q+y%Q*R))=Q*(VO+P*(x/Q))+P*B*(y%Q):=by
  rw[aRe P,<-Nat.add_assoc,aRe Q (VO+P*(x/Q)),hB];congr 1
  ac_rfl
 omega
def Ho{v:AV}{a:List Nat}(ha:eB v a)(la:a.length<10000000001){n:Nat}(hn:n<32):
  ∃r,aP E 191 [v,.int .i64 (n:Int)]=some r/\∃l,eB r l/\Norm l/\val l=val a/2^n:=by
 refine oA arx ?_;intro ts hl g0 g1;have T:=gW C.toOver;unfold aoY;by_cases ej:a.length=0
 ·have C0:a=[]:=List.eq_nil_of_length_eq_zero ej;subst C0;have hv:v=.aH∨v=.dw∨v=.aK [] 0:=by
   rcases ha.2 with rfl|⟨_,rfl|rfl⟩
   ·exact .inr (.inr rfl)
   ·exact .inl rfl
   ·exact .inr (.inl rfl)
  obtain⟨r,H',hc,hrr⟩:=IV (E:=E) hv;have hmz:eB (.aK (cB []) 0) []:=⟨by simp,.inl rfl⟩;have hmn:eB .aH []:=⟨by simp,.inr ⟨rfl,.inl rfl⟩⟩;rcases hrr with⟨rfl,rfl⟩|⟨rfl,rfl⟩
  ·obtain⟨q,hq,XE⟩:=je C hmn (by simp);have hq':=dB hq;simp only[↓aL,jg,↓aS,aJ,aa,ae,gX,Kr,Tryz.f191,hl,g0,hc];refine cC (fun k_ ts H=>k_=0/\ts.length=45/\gt ts 5=.aH/\gt ts 10=.int .i64 0/\gt ts 11=.int .i64 0/\H=[]) (0) ?_ ?_
   rotate_left
   ·refine⟨(by first|omega|rfl|simp),(by simp[bc,hl]),?_⟩;simp only[aY,hl,aa,ae];refine⟨?_,?_,?_,?_⟩
    iterate 4 first|trivial|rfl|(congr 1;omega)|(simp;done)|(simp;omega)
   clear hl g0 g1 ts;rintro k_ ts H ⟨rfl,hl,g5,g10,g11,rfl⟩;refine VS ?_;have hd:decide ((0:Int)<0)=false:=rfl;simp only[↓aL,jg,↓aS,aJ,↓reduceIte,aa,ae,aq,hl,g5,g10,g11,hq',aO XE];exact⟨_,XE,iT _,by rw[hJ];simp[val]⟩
  ·obtain⟨q,hq,XE⟩:=je C hmz (by simp);have hq':=dB hq;have gH:sI false [.cells .live []] [.aI 0 0 0 1 0]=some ([.aK (cB []) 0],[0]):=by rw[xF];exact tD (H:=[.cells .live (cB [])]) (b:=0) (l:=[]) (st:=.live) rfl
   simp only[↓aL,jg,↓aS,aJ,aa,ae,gX,Hn,Tryz.f191,hl,g0,hc];refine cC (fun k_ ts H=>k_=0/\ts.length=45/\gt ts 5=.aI 0 0 0 1 0/\gt ts 10=.int .i64 0/\gt ts 11=.int .i64 0/\H=[.cells .live []]) (0) ?_ ?_
   rotate_left
   ·refine⟨(by first|omega|rfl|simp),(by simp[bc,hl]),?_⟩;simp only[aY,hl,aa,ae];refine⟨?_,?_,?_,?_⟩
    iterate 4 first|trivial|rfl|(congr 1;omega)|(simp;done)|(simp;omega)
   clear hl g0 g1 ts;rintro k_ ts H ⟨rfl,hl,g5,g10,g11,rfl⟩;refine VS ?_;have hd:decide ((0:Int)<0)=false:=rfl;simp only[↓aL,jg,↓aS,aJ,↓reduceIte,aa,ae,aq,hl,g5,g10,g11,gH,hq',aO XE];exact⟨_,XE,iT _,by rw[hJ];simp[val]⟩
 ·have Jp:0<a.length:=by omega
  obtain rfl:v=.aK (cB a) a.length:=by
   rcases ha.2 with rfl|⟨rfl,_⟩
   ·rfl
   ·simp at Jp
  simp only[↓aL,jg,↓aS,aJ,aa,ae,gX,Hn,Tryz.f191,hl,g0,Mq Jp la];refine cC (fun k_ ts H=>∃i out,k_=a.length-i/\ts.length=45/\gt ts 0=.aK (cB a) a.length/\gt ts 1=.int .i64 (n:Int)/\gt ts 5=.aI 1 0 a.length 1 a.length/\gt ts 10=.int .i64 (a.length:Nat)/\gt ts 11=.int .i64 (i:Nat)/\H=[.cells .dead [],.cells .live (cB out)]/\(i<=a.length)/\(out.length=a.length)/\(∀d∈out,d<4294967296)/\(∀j,i<=j->out.getD j 0=a.getD j 0)/\(2^n*val (out.take i)+a.getD 0 0%2^n=val (a.take i)+4294967296^i*(a.getD i 0%2^n))) (a.length) ?_ ?_
  rotate_left
  ·refine⟨0,a,(by first|omega|rfl|simp),(by simp[bc,hl]),?_⟩;simp only[aY,hl,aa,ae,g0,g1]
   iterate 6 refine cI ?_
   refine⟨?_,?_,?_,?_,?_⟩
   ·first|omega|trivial
   ·first|trivial|trivial
   ·first|exact ha.1|trivial
   ·first|(intro j _;trivial)|trivial
   ·first|simp[val]|trivial
  clear hl g0 g1 ts;rintro k_ ts H ⟨i,out,rfl,hl,g0,g1,g5,g10,g11,rfl,hi,ho,hd,hs,hv⟩;refine VS ?_;have G2:=aSO n;by_cases sK:i<a.length
  ·have oW:decide ((i:Int)<(a.length:Int))=true:=bj;have c1:((i:Int)<((a.length:Nat):Int))=True:=eq_true (by omega);have ik:i<out.length:=by omega
   have ldo:=fK ik;rw[hs i (aLt _)]at ldo;have qe:=fA ha.1 (i:=i);have Xl:=Nat.div_add_mod (a.getD i 0) (2^n);have xq:=cA sK;generalize hx:a.getD i 0=x at ldo qe Xl xq hv;have w2:aW .i64 ((i:Int)+1)=((i+1:Nat):Int):=by rw[wrap_i64];simp
   have sh1:∀{cc:Bool} {t:Nat},cp E cc .shr t (.int .u32 (x:Int)) (.int .i64 (n:Int))=some (.int .u32 ((x/2^n:Nat):Int)):=by
    intro cc t;exact BA (show n<=IntKind.u32.bits by show n<=32;omega)
   have vR:=fun z H=>qj (H:=H) (z:=z) ik
   have hxd:x/2^n<4294967296:=aSQ (aS6 _ _) qe;by_cases azG:i+1<a.length
   ·have Ir:decide (((i+1:Nat):Int)<(a.length:Int))=true:=bj;have c2:(((i+1:Nat):Int)<((a.length:Nat):Int))=True:=eq_true (by omega);have zZ:=fK azG;have adC:=fA ha.1 (i:=i+1);have auw:=fK (out:=out.set i (x/2^n)) (j:=i) (by simpa using ik);rw[show(out.set i (x/2^n)).getD i 0=x/2^n by rw[aRt,aOl ik];rfl]at auw;have e0:((out.set i (x/2^n)).set i (x/2^n+(a.getD (i+1) 0%2^n)*2^(32-n)))=out.set i (x/2^n+(a.getD (i+1) 0%2^n)*2^(32-n)):=by simp
    generalize hy:a.getD (i+1) 0=y at zZ adC e0;obtain⟨hor,eh⟩:=SZ (x:=x) (y:=y) qe hn;have wy:aW .u64 (y:Int)=y:=wrap_u64;have sh2:∀{cc:Bool} {t:Nat},cp E cc .shr t (.int .u64 ((y*4294967296:Nat):Int)) (.int .i64 (n:Int))=some (.int .u64 ((y*4294967296/2^n:Nat):Int)):=by
     intro cc t;exact BA (show n<=IntKind.u64.bits by show n<=64;omega)
    have az4:∀{cc:Bool} {t:Nat},cp E cc .or t (.int .u32 ((x/2^n:Nat):Int)) (.int .u32 ((y*4294967296/2^n%4294967296:Nat):Int))=some (.int .u32 ((x/2^n+(y%2^n)*2^(32-n):Nat):Int)):=by intro cc t;rw[PF hxd (aSR _ (by decide)),hor]
    have XJ:=fun z H=>qj (H:=H) (z:=z) (out:=out.set i (x/2^n)) (j:=i) (by simpa using ik)
    simp only[↓aL,jg,Cg,aJ,↓reduceIte,aa,ah,ae,↓Ct fX gT,↓Ct gT fX,xg fX gT,xg gT fX,hl,g0,g1,g5,g10,g11,c1,c2,w2,wy,ldo,auw,zZ,sh1,sh2,az4,vR,XJ,sZ (show y<4294967296 by omega),wrap_u32,AV.cells];refine bI ?_;refine⟨_,?_,i+1,(out.set i (x/2^n)).set i (x/2^n+(y%2^n)*2^(32-n)),rfl,(by simp[bc,hl]),?_⟩
    ·first|omega|(simp;omega)
    simp only[aY,hl,aa,ae,g0,g1,g5,g10]
    iterate 6 refine cI ?_
    refine⟨?_,?_,?_,?_,?_⟩
    ·omega
    ·simpa using ho
    ·rw[e0];exact cZ hd eh
    ·intro j hj;rw[e0,aRt,aOj (by omega)];exact hs j (by omega)
    ·rw[e0,eH ik,xq,hy,aRu];exact N9 (show(4294967296:Nat)=2^(32-n)*2^n by rw[<-aSX,show 32-n+n=32 by omega]) Xl hv
   ·have Ir:decide (((i+1:Nat):Int)<(a.length:Int))=false:=bh (by omega);simp only[↓aL,jg,Cg,aJ,↓reduceIte,aa,ah,ae,hl,g0,g1,g5,g10,g11,Ir,c1,w2,ldo,sh1,vR,AV.cells];refine bI ?_;refine⟨_,?_,i+1,out.set i (x/2^n),rfl,(by simp[bc,hl]),?_⟩
    ·first|omega|(simp;omega)
    simp only[aY,hl,aa,ae,g0,g1,g5,g10]
    iterate 6 refine cI ?_
    refine⟨?_,?_,?_,?_,?_⟩
    ·omega
    ·simpa using ho
    ·exact cZ hd hxd
    ·intro j hj;rw[aRt,aOj (by omega)];exact hs j (by omega)
    ·have hz:a.getD (i+1) 0=0:=by rw[aRt,aLv (by omega)];rfl
     rw[eH ik,xq,hz,Nat.zero_mod,aRF,aPm];exact Dh Xl hv
  ·have oW:decide ((i:Int)<(a.length:Int))=false:=bh (by omega);obtain rfl:i=a.length:=by omega
   have Bf:eB (.aK (cB out) a.length) out:=⟨hd,.inl (by rw[ho])⟩;obtain⟨q,hq,XE⟩:=je C Bf;have hq':=dB hq;have gH:sI false [.cells .dead [],.cells .live (cB out)] [.aI 1 0 a.length 1 a.length]=some ([.aK (cB out) a.length],[1]):=by
    rw[xF]
    have:=tD (H:=[.cells .dead [],.cells .live (cB out)]) (b:=1) (l:=out) (st:=.live) rfl
    rwa[ho]at this
   simp only[↓aL,jg,↓aS,aJ,↓reduceIte,aa,ae,hl,g5,g10,g11,oW,gH,hq',aO XE];refine⟨_,XE,iT _,?_⟩;rw[hJ];rw[aPk (aLt _),aPk (by omega)]at hv;have hz:a.getD a.length 0=0:=by rw[aRt,aLv (by omega)];rfl
   rw[hz]at hv;simp only[Nat.zero_mod,aRF,aPm]at hv;have hr:=aSR (a.getD 0 0) G2;symm;rw[<-hv,Nat.mul_add_div G2,aS3 hr,aPm]
end Go.Proofs.YtmkjgfnicfpjpaaGreatDoor
namespace Dv.dk
def mi{p a b:Nat}(h:p*a<p*b):a<b:=aSU h
structure oh(B P u v ul vl u0 u1 u2 v1 v2:Nat):Prop where
 hu:u=ul+P*(u2+B*(u0*B+u1))
 hv:v=vl+P*(v2+B*v1)
 ulP:ul<P
 vlP:vl<P
 u2B:u2<B
 u1B:u1<B
 v2B:v2<B
 v1p:0<v1
 lt:u<B*v
variable{B P u v ul vl u0 u1 u2 v1 v2:Nat}
def oh.Pp(L:oh B P u v ul vl u0 u1 u2 v1 v2):0<P:=by have:=L.ulP;omega
def oh.Bp(L:oh B P u v ul vl u0 u1 u2 v1 v2):0<B:=by have:=L.u2B;omega
def oh.vp(L:oh B P u v ul vl u0 u1 u2 v1 v2):P*B<=v:=by
 have h1:B*1<=B*v1:=aRE _ L.v1p;have h2:P*B<=P*(v2+B*v1):=aRE _ (by omega)
 have:=L.hv
 omega
def oh.v0(L:oh B P u v ul vl u0 u1 u2 v1 v2):0<v:=aN0 (Nat.mul_pos L.Pp L.Bp) L.vp
def oh.uX(L:oh B P u v ul vl u0 u1 u2 v1 v2):u<P*(u2+B*(u0*B+u1)+1):=by have h1:=L.hu;have h2:=L.ulP;rw[aRe P _ 1,aRH];omega
def oh.vW(L:oh B P u v ul vl u0 u1 u2 v1 v2):v<P*(v2+B*v1+1):=by have h1:=L.hv;have h2:=L.vlP;rw[aRe P _ 1,aRH];omega
def oh.u0v(L:oh B P u v ul vl u0 u1 u2 v1 v2):u0<=v1:=by
 have h1:u<B*(P*(v2+B*v1+1)):=aN0 L.lt (aRE _ (Nat.le_of_lt L.vW));have h2:P*(u2+B*(u0*B+u1))<=u:=by have:=L.hu;omega
 have h3:P*(B*(u0*B))<P*(B*(v2+B*v1+1)):=by
  have:P*(B*(u0*B))<=P*(u2+B*(u0*B+u1)):=aRE _ (by rw[aRe];omega)
  have e:B*(P*(v2+B*v1+1))=P*(B*(v2+B*v1+1)):=by ac_rfl
  omega
 have h4:=mi (mi h3);have h5:v2+B*v1+1<=B*(v1+1):=by have:=L.v2B;rw[aRe];omega
 have h6:B*u0<B*(v1+1):=by rw[aSP B u0];omega
 have:=mi h6
 omega
def oh.first(L:oh B P u v ul vl u0 u1 u2 v1 v2):u/v<=(u0*B+u1)/v1:=by
 rw[Nat.le_div_iff_mul_le L.v1p];have h1:u/v*v<=u:=aTe u v;generalize u/v=q at h1;have h2:P*(B*(q*v1))<=q*v:=by
  have e:P*(B*(q*v1))=q*(P*(B*v1)):=by ac_rfl
  rw[e];refine aRE _ ?_
  have:=L.hv
  rw[aRe]at this;omega
 have h3:=L.uX;have h4:P*(B*(q*v1))<P*(B*(u0*B+u1+1)):=by
  refine aSQ h2 (aSQ h1 (aN0 h3 (aRE _ ?_)))
  have:=L.u2B
  rw[aRe B _ 1];omega
 have:=mi (mi h4)
 omega
def oh.ltB(L:oh B P u v ul vl u0 u1 u2 v1 v2):u/v<B:=aTc (by rw[aSP];exact L.lt)
def oh.step(L:oh B P u v ul vl u0 u1 u2 v1 v2){q rest:Nat}(hq:q*v1+rest=u0*B+u1)(hle:u/v<=q)(hc:q*v2>rest*B+u2):u/v<=q-1:=by
 by_cases he:u/v=q
 ·exfalso;have h1:u/v*v<=u:=aTe u v;rw[he]at h1;have h2:P*(q*(v2+B*v1))<P*(u2+B*(u0*B+u1)+1):=by
   refine aSQ ?_ L.uX;refine Nat.le_trans ?_ h1;have e:P*(q*(v2+B*v1))=q*(P*(v2+B*v1)):=by ac_rfl
   rw[e];exact aRE _ (by have:=L.hv;omega)
  have h3:=mi h2;rw[<-hq]at h3;have e1:q*(v2+B*v1)=q*v2+B*(q*v1):=by rw[aRe];congr 1;ac_rfl
  have e2:B*(q*v1+rest)=B*(q*v1)+rest*B:=by rw[aRe];congr 1;ac_rfl
  omega
 ·omega
def oh.last(L:oh B P u v ul vl u0 u1 u2 v1 v2){q rest:Nat}(hq:q*v1+rest=u0*B+u1)(hc:rest≥B∨(q<B/\q*v2<=rest*B+u2)):q<B/\q*v<=u+v:=by
 have hqB:q<B:=by
  rcases hc with h|h
  ·have h1:=L.u0v;have h2:u0*B<=v1*B:=aLZ _ h1;have h3:v1*q<v1*B:=by have:=L.u1B;rw[aSP v1 q];omega
   exact mi h3
  ·exact h.1
 refine⟨hqB,?_⟩;have h1:q*v<=q*(P*(v2+B*v1+1)):=aRE _ (Nat.le_of_lt L.vW);have e1:q*(P*(v2+B*v1+1))=P*(q*v2+B*(q*v1)+q):=by
  rw[show q*(P*(v2+B*v1+1))=P*(q*(v2+B*v1+1))by ac_rfl,aRe q,aRe q,aRH];congr 3;ac_rfl
 have hu:=L.hu;rcases hc with h|h
 ·have h2:q*v2+B*(q*v1)+q<=u2+B*(u0*B+u1):=by
   have h3:q*v2<=q*(B-1):=aRE _ (by have:=L.v2B;omega);have h4:q*(B-1)+q=q*B:=by rw[<-Nat.mul_succ];congr 1;omega
   have h5:B*(q*v1)+B*rest=B*(u0*B+u1):=by rw[<-aRe,hq]
   have h6:q*B<=B*rest:=by rw[aSP];exact aRE _ (by omega)
   omega
  have h3:=aRE P h2;omega
 ·have h5:B*(q*v1)+rest*B=B*(u0*B+u1):=by rw[<-hq,aRe,aSP rest B]
  have h2:q*v2+B*(q*v1)+q<=u2+B*(u0*B+u1)+B:=by omega
  have h3:=aRE P h2;rw[aRe P _ B]at h3;have h4:=L.vp;omega
def RO{P X Y:Int}{k:Int}(hX0:0<=X)(hX:X<P)(hY0:0<=Y)(hY:Y<P)(h:X+P*k=Y):k=0:=by
 have hP:0<P:=by omega
 rcases Int.lt_trichotomy k 0 with hk|hk|hk
 ·have:P*k<=P*(-1):=aST (by omega) (by omega)
  omega
 ·exact hk
 ·have:P*1<=P*k:=aST (by omega) (by omega)
  omega
def abj{X W v u q P c:Nat}{t:Int}(hX:X<P)(hv:v<P)(hW:W<P)(ht:t<0)(hc:c<=1)(hq:0<q)(C3:(W:Int)+(q:Int)*(v:Int)+(P:Int)*t=(u:Int))(C4:X+P*c=W+v)(hle:q*v<=u+v):
  t= -1/\c=1/\X+(q-1)*v=u/\X<v:=by
 have h1:(X:Int)+(P:Int)*(c:Int)=(W:Int)+(v:Int):=by rw[<-aSn];omega
 have h2:(q:Int)*(v:Int)=((q*v:Nat):Int):=(aSn _ _).symm;have hY:(X:Int)+(P:Int)*(t+c)=(u:Int)+(v:Int)-(q:Int)*(v:Int):=by rw[Int.mul_add];omega
 have h3:(P:Int)*t<=(P:Int)*(-1):=aST (by omega) (by omega);have htc:t+c=0:=RO (by omega) (Int.ofNat_lt.2 hX) (by omega) (by omega) hY;have XL:t= -1:=by omega
 have GX:c=1:=by omega
 subst XL;subst GX;have h4:(q-1)*v+v=q*v:=by rw[<-Nat.succ_mul];congr 1;omega
 have h5:(P:Int)*(-1+((1:Nat):Int))=0:=by rw[show(-1+((1:Nat):Int))=0 by decide,Int.mul_zero]
 rw[h5]at hY;exact⟨rfl,rfl,by omega,by omega⟩
def Z5{P X W V c w d:Nat}(hv:X+P*c=W+V):X+P*((c+(w+d))%4294967296)+P*4294967296*((c+(w+d))/4294967296)=W+P*w+(V+P*d):=by
 have e2:P*((c+(w+d))%4294967296)+P*4294967296*((c+(w+d))/4294967296)=P*c+(P*w+P*d):=by rw[aRv,<-aRe,aS5,aRe,aRe]
 omega
def Lq{P X U V c b q d w r b':Nat}(hv:X+q*V=U+P*(c+b))(h:w+4294967296*b'=r+b+(c+q*d)%4294967296):X+P*r+q*(V+P*d)=U+P*w+P*4294967296*((c+q*d)/4294967296+b'):=by
 have e1:q*(V+P*d)=q*V+P*(q*d):=by rw[aRe];congr 1;ac_rfl
 have e2:c+q*d=(c+q*d)%4294967296+4294967296*((c+q*d)/4294967296):=(aS5 _ _).symm;generalize hm:(c+q*d)%4294967296=m at*;generalize hk:(c+q*d)/4294967296=k at*;have e3:P*(c+q*d)=P*(m+4294967296*k):=by rw[<-e2]
 have e4:P*(w+4294967296*b')=P*(r+b+m):=by rw[h]
 have e5:P*4294967296*(k+b')=P*(4294967296*k)+P*(4294967296*b'):=by rw[aRv,<-aRe,<-aRe]
 rw[aRe]at e3 e4 hv;rw[aRe]at e3 e4;rw[aRe]at e4;omega
def aeT{P X U v c b q u0 t:Nat}(hv:X+q*v=U+P*(c+b))(ht:u0=t+b+c):X+P*t+q*v=U+P*u0:=by subst ht;rw[aRe,aRe];rw[aRe]at hv;omega
def ame{P X U v k q:Nat}(hX:X<P)(hk:0<k)(hv:X+q*v=U+P*k):0<q:=by
 refine aTg fun e=>?_
 subst e
 have:P*1<=P*k:=aRE _ hk
 omega
def Z7{P X U v c b q u0:Nat}{t:Int}(hv:X+q*v=U+P*(c+b))(ht:t=(u0:Int)-b-c):(X:Int)+(q:Int)*(v:Int)+(P:Int)*t=((U+P*u0:Nat):Int):=by
 subst ht;have h1:((X+q*v:Nat):Int)=((U+P*(c+b):Nat):Int):=by rw[hv]
 simp only[aSo,aSn]at h1⊢;rw[Int.mul_sub,Int.mul_sub];rw[Int.mul_add]at h1;omega
end Dv.dk
namespace Go.Proofs.YtmkjgfnicfpjpaaGreatDoor
open Go Dv Dv.dk
variable{E:Env}[C:Ctx E]
def oY(U:List Nat)(off k:Nat):Nat:=val ((U.drop off).take k)
def kG{U:List Nat}{off k:Nat}(h:off+k<U.length:=by omega):oY U off (k+1)=oY U off k+4294967296^k*U.getD (off+k) 0:=by unfold oY;rw[cA (by rw[aPj];omega)];congr 2;rw[aRt,aLy,aRt]
def Dq{U:List Nat}{off k j d:Nat}(h:off+k<=j):oY (U.set j d) off k=oY U off k:=by unfold oY;rw[List.drop_set,if_neg (by omega),aTd (by omega)]
def jV{U:List Nat}{off k d:Nat}(h:off+k<U.length):oY (U.set (off+k) d) off (k+1)=oY U off k+4294967296^k*d:=by rw[kG (by simpa using h),Dq (aLt _),aRt,aOl h];rfl
def Ht{U:List Nat}(h:∀d∈U,d<4294967296){off k:Nat}:oY U off k<4294967296^k:=by
 unfold oY;refine aN0 (oQ fun d hd=>h d (List.mem_of_mem_drop (aRC hd))) ?_;exact aSS (by omega) (by rw[aPl];omega)
def qk{l:List Nat}:val (l.take l.length)=val l:=by rw[aPo]
def og{z:Int}:aW .u32 z=z%4294967296:=by
 show IntKind.u32.wrap _=_
 rw[IntKind.wrap_u32]
def od{U:List Nat}{j k d:Nat}(h:j≠k:=by omega):(U.set j d).getD k 0=U.getD k 0:=by rw[aRt,aOj h,aRt]
def ZY{U:List Nat}{j d:Nat}(h:j<U.length):(U.set j d).getD j 0=d:=by rw[aRt,aOl h];rfl
def adT{U Vl:List Nat}{off n:Nat}(hn:Vl.length=n+2)(hU:off+(n+2)<U.length)(MR:∀d∈U,d<4294967296)(hVd:∀d∈Vl,d<4294967296)(XN:0<Vl.getD (n+1) 0)(eh:oY U off (n+3)<4294967296*val Vl):
  oh 4294967296 (4294967296^n) (oY U off (n+3)) (val Vl) (oY U off n) (val (Vl.take n)) (U.getD (off+(n+2)) 0) (U.getD (off+(n+1)) 0) (U.getD (off+n) 0) (Vl.getD (n+1) 0) (Vl.getD n 0):=by
 refine⟨?_,?_,Ht MR,?_,fA MR,fA MR,fA hVd,XN,eh⟩
 ·rw[kG,kG,kG];simp only[aRu];generalize 4294967296^n=P;rw[aRe,aRe,aRe];have e1:P*(4294967296*(U.getD (off+(n+2)) 0*4294967296))=P*4294967296*4294967296*U.getD (off+(n+2)) 0:=by ac_rfl
  have e2:P*(4294967296*U.getD (off+(n+1)) 0)=P*4294967296*U.getD (off+(n+1)) 0:=by ac_rfl
  omega
 ·have h1:=qk (l:=Vl);rw[hn,cA,cA]at h1;simp only[aRu]at h1;rw[<-h1];generalize 4294967296^n=P;rw[aRe];have e2:P*(4294967296*Vl.getD (n+1) 0)=P*4294967296*Vl.getD (n+1) 0:=by ac_rfl
  omega
 ·have:=oQ (l:=Vl.take n) fun d hd=>hVd d (aRC hd)
  rwa[aPl,aS7 (by omega)]at this
def Eg:Nat->Code->Code
 |0,c=>c
 |n+1,.seq _ b=>Eg n b
 |_+1,c=>c
def FB:Code->Code
 |.seq a _=>a
 |c=>c
def Wo:Code:=Eg 5 s8
def Wm:Code:=Eg 10 s8
def ab7:s8=.seq (FB s8) (.seq (FB (Eg 1 s8)) (.seq (FB (Eg 2 s8)) (.seq (FB (Eg 3 s8)) (.seq (FB (Eg 4 s8)) Wo)))):=by kernel_rfl
def Wp:Wo=.seq (FB (Eg 5 s8)) (.seq (FB (Eg 6 s8)) (.seq (FB (Eg 7 s8)) (.seq (FB (Eg 8 s8)) (.seq (FB (Eg 9 s8)) Wm)))):=by kernel_rfl
def aa8(U Vl:List Nat)(off n:Nat)(H1:Hp)(r:AV)(H':Hp):Prop:=∃q U',r=.int .u32 (q:Nat)/\H'=.cells .live (cB U')::H1/\q<4294967296/\U'.length=U.length/\(∀d∈U',d<4294967296)/\(∀j,(j<off∨off+(n+3)<=j)->U'.getD j 0=U.getD j 0)/\oY U' off (n+3)+q*val Vl=oY U off (n+3)/\oY U' off (n+3)<val Vl
def Wn{vv:AV}{U Vl W:List Nat}{off n kc q:Nat}{H1:Hp}{t:Int}(hV:eB vv Vl)(hn:Vl.length=n+2)(Qp:n<10000000000)(hU:off+(n+3)<=U.length)(hUl:U.length<20000000000)
  (hW:W.length=U.length) (hWd:∀d∈W,d<4294967296) (hWo:∀j,(j<off∨off+(n+3)<=j)->W.getD j 0=U.getD j 0) (ht:t<0) (ht0: -4294967296<=t) (hWn:(W.getD (off+(n+2)) 0:Int)=t%4294967296) (hq0:0<q) (hq:q<4294967296)
  (C3:(oY W off (n+2):Int)+(q:Int)*(val Vl:Int)+((4294967296^(n+2):Nat):Int)*t=(oY U off (n+3):Int)) (hle:q*val Vl<=oY U off (n+3)+val Vl)
  {ts:List AV} (hl:ts.length=173) (g0:gt ts 0=.aI 0 off (n+3) 1 kc) (g1:gt ts 1=vv) (g5:gt ts 5=.int .i64 ((n+2:Nat):Int)) (g7:gt ts 7=.int .u64 (q:Nat)):
  V E Wm ts (.cells .live (cB W)::H1) (o6 E [.tmp 4] (aa8 U Vl off n H1)):=by
 have T:=gW C.toOver;unfold Wm;refine VS ?_
 dsimp only[Eg,FB,s8,Tryz.f190]
 simp only[↓aL,jg,aJ,aa,ae,gX,hl,g1,lI hV];refine cC (fun k_ ts H=>∃i X c,k_=(n+2)-i/\ts.length=173/\gt ts 0=.aI 0 off (n+3) 1 kc/\gt ts 1=vv/\gt ts 5=.int .i64 ((n+2:Nat):Int)/\gt ts 7=.int .u64 (q:Nat)/\gt ts 9=.int .u64 (c:Nat)/\gt ts 137=vv/\gt ts 138=.int .i64 ((n+2:Nat):Int)/\gt ts 139=.int .i64 (i:Nat)/\H=.cells .live (cB X)::H1/\(i<=n+2)/\(X.length=U.length)/\(∀d∈X,d<4294967296)/\(∀j,(j<off∨off+i<=j)->X.getD j 0=W.getD j 0)/\(c<=1)/\(oY X off i+4294967296^i*c=oY W off i+val (Vl.take i))) (n+2) ?_ ?_
 rotate_left
 ·refine⟨0,W,0,(by first|omega|rfl|simp),(by simp[bc,hl]),?_⟩;simp only[aY,hl,aa,ae,g0,g1,g5,g7,hn]
  iterate 9 refine cI ?_
  refine⟨?_,?_,?_,?_,?_,?_⟩
  ·first|omega|trivial
  ·first|exact hW|trivial
  ·first|exact hWd|trivial
  ·first|(intro j _;first|trivial|rfl)|trivial
  ·first|omega|trivial
  ·first|simp[oY,val]|trivial
 clear hl g0 g1 g5 g7 ts;rintro k_ ts H ⟨i,X,c,rfl,hl,g0,g1,g5,g7,g9,asi,ajP,asj,rfl,hi,hX,Sr,Xe,hc,hv⟩;refine VS ?_;by_cases LM:i<n+2
 ·have oW:decide ((i:Int)<((n+2:Nat):Int))=true:=bj;have ixv:=ji T hV (k:=.i64) (z:=(i:Int));rw[aRs]at ixv;have ldv:=fK (out:=Vl) (j:=i);have akd:=fA hV.1 (i:=i);have hvt:=cA (l:=Vl) (i:=i);generalize hd:Vl.getD i 0=d at ldv akd hvt;have c1:((i:Int)<((n+3:Nat):Int))=True:=eq_true (by omega);have ik:off+i<X.length:=by omega
  have Kq:=fK ik;rw[Xe _ (.inr (aLt _))]at Kq;have XO:=fA hWd (i:=off+i);have hms:=kG (U:=W) (off:=off) (k:=i);generalize hw:W.getD (off+i) 0=w at Kq XO hms;have w1:aW .u64 (d:Int)=d:=wrap_u64;have w2:aW .u64 (w:Int)=w:=wrap_u64;have w3:aW .u64 ((w:Int)+(d:Int))=((w+d:Nat):Int):=by rw[<-aSo];exact wrap_u64
  have w4:aW .u64 ((c:Int)+((w+d:Nat):Int))=((c+(w+d):Nat):Int):=by rw[<-aSo];exact wrap_u64
  have w5:aW .i64 ((i:Int)+1)=((i+1:Nat):Int):=by rw[wrap_i64];simp
  have dx:=fun z H=>qj (H:=H) (z:=z) ik
  simp only[↓aL,jg,aJ,↓reduceIte,aa,ae,gI,cu,↓ef fX gT,↓ef gT fX,hl,g0,g9,asi,ajP,asj,oW,ixv,ldv,Kq,c1,w1,w2,w3,w4,w5,dx,dZ,eJ,jJ,wrap_u32,AV.cells];refine bI ?_;refine⟨_,?_,i+1,X.set (off+i) ((c+(w+d))%4294967296),(c+(w+d))/4294967296,rfl,(by simp[bc,hl]),?_⟩
  ·first|omega|(simp;omega)
  simp only[aY,hl,aa,ae,g0,g1,g5,g7,asi,ajP]
  iterate 9 refine cI ?_
  refine⟨?_,?_,?_,?_,?_,?_⟩
  ·omega
  ·simpa using hX
  ·exact cZ Sr (aSR _ (by decide))
  ·intro j hj;rw[od];exact Xe j (by omega)
  ·omega
  ·rw[jV ik,hms,hvt,aRu];exact Z5 hv
 ·have oW:decide ((i:Int)<((n+2:Nat):Int))=false:=bh (by omega);obtain rfl:i=n+2:=by omega
  have c1:(((n+2:Nat):Int)<((n+3:Nat):Int))=True:=eq_true (by omega);have ik:off+(n+2)<X.length:=by omega
  have Kq:=fK ik;rw[Xe _ (.inr (aLt _))]at Kq;have hvV:val (Vl.take (n+2))=val Vl:=by rw[<-hn,aPo]
  rw[hvV]at hv;have hVB:val Vl<4294967296^(n+2):=by have:=oQ hV.1;rwa[hn]at this
  have azm:=Ht Sr (off:=off) (k:=n+2);have azj:=Ht hWd (off:=off) (k:=n+2);obtain⟨rfl,rfl,as8,as9⟩:=abj azm hVB azj ht hc hq0 C3 hv hle;have azk:W.getD (off+(n+2)) 0=4294967295:=by
   have:(-1:Int)%4294967296=4294967295:=by decide
   omega
  rw[azk]at Kq;have w1:aW .u32 1=1:=by rw[og];decide
  have w2:aW .u32 (4294967295+1)=0:=by rw[og];decide
  have w3:aW .u64 ((q:Int)-1)=((q-1:Nat):Int):=by rw[show(q:Int)-1=((q-1:Nat):Int)by omega];exact wrap_u64
  have dx:∀H,iZ 1 [.int .u32 0] (.cells .live (cB X)::H) 0 (off+(n+2))=some (.cells .live (cB (X.set (off+(n+2)) 0))):=fun H=>qj (z:=0) ik
  simp only[↓aL,jg,aJ,↓reduceIte,aa,ae,cu,↓ef gT fX,hl,g0,g5,g7,g9,ajP,asj,oW,c1,Kq,w1,w2,w3,dx,dZ,eJ,wrap_u32,AV.cells];refine⟨q-1,X.set (off+(n+2)) 0,?_,rfl,by omega,by simpa using hX,cZ Sr (by decide),?_,?_,?_⟩
  ·rw[aSm (by omega)]
  ·intro j hj;rw[od,Xe j (by omega)];exact hWo j hj
  ·rw[jV ik,aRF,aPm];exact as8
  ·rw[jV ik,aRF,aPm];exact as9
def qV{n:Nat}(h:n<=9223372036854775807:=by omega):aW .i64 (n:Int)=n:=wrap_i64
def sub_neg{w b m:Nat}(hw:w<4294967296)(hb:b<=1)(hm:m<4294967296)(h:(w:Int)-(b:Int)-(m:Int)<0):aW .u32 ((w:Int)-(b:Int)-(m:Int))=((w+4294967296-b-m:Nat):Int)/\w+4294967296-b-m<4294967296/\w+4294967296*1=w+4294967296-b-m+b+m:=by
 have e:((w+4294967296-b-m:Nat):Int)=(w:Int)-(b:Int)-(m:Int)+4294967296:=by omega
 refine⟨?_,by omega,by omega⟩;rw[og,e,<-Int.add_emod_right,aTi (by omega) (by omega)]
def Lu{w b m:Nat}(hw:w<4294967296)(h:¬(w:Int)-(b:Int)-(m:Int)<0:=by omega):aW .u32 ((w:Int)-(b:Int)-(m:Int))=((w-b-m:Nat):Int)/\w-b-m<4294967296/\w+4294967296*0=w-b-m+b+m:=by
 have e:((w-b-m:Nat):Int)=(w:Int)-(b:Int)-(m:Int):=by omega
 refine⟨?_,by omega,by omega⟩;rw[og,e,aTi (by omega) (by omega)]
def ab6{vv:AV}{U Vl:List Nat}{off n kc q:Nat}{H1:Hp}(hV:eB vv Vl)(hn:Vl.length=n+2)(Qp:n<10000000000)(hU:off+(n+3)<=U.length)(hUl:U.length<20000000000)
  (MR:∀d∈U,d<4294967296) (hq:q<4294967296) (hup:oY U off (n+3)<(q+1)*val Vl) (hle:q*val Vl<=oY U off (n+3)+val Vl)
  {ts:List AV} (hl:ts.length=173) (g0:gt ts 0=.aI 0 off (n+3) 1 kc) (g1:gt ts 1=vv) (g5:gt ts 5=.int .i64 ((n+2:Nat):Int)) (g7:gt ts 7=.int .u64 (q:Nat)):
  V E Wo ts (.cells .live (cB U)::H1) (o6 E [.tmp 4] (aa8 U Vl off n H1)):=by
 have T:=gW C.toOver;rw[Wp];refine VS ?_
 dsimp only[Eg,FB,s8,Tryz.f190]
 simp only[↓aL,jg,aJ,aa,ae,gX,hl,g1,lI hV];refine cC (fun k_ ts H=>∃i X c b,k_=(n+2)-i/\ts.length=173/\gt ts 0=.aI 0 off (n+3) 1 kc/\gt ts 1=vv/\gt ts 5=.int .i64 ((n+2:Nat):Int)/\gt ts 7=.int .u64 (q:Nat)/\gt ts 9=.int .u64 (c:Nat)/\gt ts 10=.int .i64 (b:Nat)/\gt ts 84=vv/\gt ts 85=.int .i64 ((n+2:Nat):Int)/\gt ts 86=.int .i64 (i:Nat)/\H=.cells .live (cB X)::H1/\(i<=n+2)/\(X.length=U.length)/\(∀d∈X,d<4294967296)/\(∀j,(j<off∨off+i<=j)->X.getD j 0=U.getD j 0)/\(c<4294967296)/\(b<=1)/\(oY X off i+q*val (Vl.take i)=oY U off i+4294967296^i*(c+b))) (n+2) ?_ ?_
 rotate_left
 ·refine⟨0,U,0,0,(by first|omega|rfl|simp),(by simp[bc,hl]),?_⟩;simp only[aY,hl,aa,ae,g0,g1,g5,g7,hn]
  iterate 10 refine cI ?_
  refine⟨?_,?_,?_,?_,?_,?_,?_⟩
  ·first|omega|trivial
  ·first|(first|trivial|rfl)|trivial
  ·first|exact MR|trivial
  ·first|(intro j _;first|trivial|rfl)|trivial
  ·first|(first|trivial|omega)|trivial
  ·first|(first|trivial|omega)|trivial
  ·first|simp[oY,val]|trivial
 clear hl g0 g1 g5 g7 ts;rintro k_ ts H ⟨i,X,c,b,rfl,hl,g0,g1,g5,g7,g9,g10,g84,g85,g86,rfl,hi,hX,Sr,Xe,hc,hb,hv⟩;refine VS ?_;by_cases LM:i<n+2
 ·have oW:decide ((i:Int)<((n+2:Nat):Int))=true:=bj;have ixv:=ji T hV (k:=.i64) (z:=(i:Int));rw[aRs]at ixv;have ldv:=fK (out:=Vl) (j:=i);have akd:=fA hV.1 (i:=i);have hvt:=cA (l:=Vl) (i:=i);generalize hd:Vl.getD i 0=d at ldv akd hvt;have c1:((i:Int)<((n+3:Nat):Int))=True:=eq_true (by omega);have ik:off+i<X.length:=by omega
  have Kq:=fK ik;rw[Xe _ (.inr (aLt _))]at Kq;have XO:=fA MR (i:=off+i);have hms:=kG (U:=U) (off:=off) (k:=i);generalize hw:U.getD (off+i) 0=w at Kq XO hms;have hqd:q*d<=4294967295*4294967295:=aS8 (by omega) (by omega);have w1:aW .u64 (d:Int)=d:=wrap_u64;have w2:aW .u64 ((q:Int)*(d:Int))=((q*d:Nat):Int):=by rw[<-aSn];exact wrap_u64
  obtain⟨s,hs⟩:∃s,s=c+q*d:=⟨_,rfl⟩;obtain⟨m,hm⟩:∃m,m=s%4294967296:=⟨_,rfl⟩;obtain⟨k',sM⟩:∃k',k'=s/4294967296:=⟨_,rfl⟩;have akB:m<4294967296:=by rw[hm];exact aSR _ (by decide)
  have ati:k'<4294967296:=by rw[sM,hs];omega
  have w3:aW .u64 ((c:Int)+((q*d:Nat):Int))=(s:Int):=by rw[hs,<-aSo];exact wrap_u64
  have w3m:aW .u32 (s:Int)=(m:Int):=by rw[hm];exact wrap_u32
  have adv:∀{cc:Bool} {t:Nat} {kk:IntKind},cp E cc .shr t (.int .u64 (s:Int)) (.int kk 32)=some (.int .u64 (k':Int)):=by intro cc t kk;rw[sM];exact jJ
  have w4:aW .i64 (w:Int)=w:=qV;have w5:aW .i64 (m:Int)=m:=qV;obtain⟨t1,XL⟩:∃t1:Int,t1=(w:Int)-(b:Int):=⟨_,rfl⟩;obtain⟨t2,ht2⟩:∃t2:Int,t2=t1-(m:Int):=⟨_,rfl⟩;have w6:aW .i64 ((w:Int)-(b:Int))=t1:=by rw[XL];exact wrap_i64
  have w7:aW .i64 (t1-(m:Int))=t2:=by rw[ht2];exact wrap_i64
  have w8:aW .i64 ((i:Int)+1)=((i+1:Nat):Int):=by rw[wrap_i64];simp
  have dx:=fun z H=>qj (H:=H) (z:=z) ik
  by_cases o9:t2<0
  ·have Sv:decide (t2<0)=true:=bj o9;obtain⟨r,w9,M7,hre⟩:∃r:Nat,aW .u32 t2=(r:Int)/\r<4294967296/\w+4294967296*1=r+b+m:=by refine⟨w+4294967296-b-m,?_⟩;rw[ht2,XL];exact sub_neg XO hb akB (by omega)
   simp only[↓aL,jg,aJ,↓reduceIte,aa,ae,gI,cu,↓ef fX gT,↓ef fX kd2,↓ef gT fX,↓ef kd2 fX,hl,g0,g7,g9,g10,g84,g85,g86,oW,ixv,ldv,Kq,c1,w1,w2,w3,w3m,adv,w4,w5,w6,w7,w8,w9,Sv,dx,dZ,eJ,AV.cells];refine bI ?_;refine⟨_,?_,i+1,X.set (off+i) r,k',1,rfl,(by simp[bc,hl]),?_⟩
   ·first|omega|(simp;omega)
   simp only[aY,hl,aa,ae,g0,g1,g5,g7,g84,g85]
   iterate 10 refine cI ?_
   refine⟨?_,?_,?_,?_,?_,?_,?_⟩
   ·omega
   ·simpa using hX
   ·exact cZ Sr M7
   ·intro j hj;rw[od];exact Xe j (by omega)
   ·exact ati
   ·omega
   ·rw[jV ik,hms,hvt,aRu,sM,hs];rw[hm,hs]at hre;exact Lq hv hre
  ·have Sv:decide (t2<0)=false:=bh o9;obtain⟨r,w9,M7,hre⟩:∃r:Nat,aW .u32 t2=(r:Int)/\r<4294967296/\w+4294967296*0=r+b+m:=by refine⟨w-b-m,?_⟩;rw[ht2,XL];exact Lu XO
   simp only[↓aL,jg,aJ,↓reduceIte,aa,ae,gI,cu,↓ef fX gT,↓ef fX kd2,↓ef gT fX,↓ef kd2 fX,hl,g0,g7,g9,g10,g84,g85,g86,oW,ixv,ldv,Kq,c1,w1,w2,w3,w3m,adv,w4,w5,w6,w7,w8,w9,Sv,dx,dZ,eJ,AV.cells];refine bI ?_;refine⟨_,?_,i+1,X.set (off+i) r,k',0,rfl,(by simp[bc,hl]),?_⟩
   ·first|omega|(simp;omega)
   simp only[aY,hl,aa,ae,g0,g1,g5,g7,g84,g85]
   iterate 10 refine cI ?_
   refine⟨?_,?_,?_,?_,?_,?_,?_⟩
   ·omega
   ·simpa using hX
   ·exact cZ Sr M7
   ·intro j hj;rw[od];exact Xe j (by omega)
   ·exact ati
   ·omega
   ·rw[jV ik,hms,hvt,aRu,sM,hs];rw[hm,hs]at hre;exact Lq hv hre
 ·have oW:decide ((i:Int)<((n+2:Nat):Int))=false:=bh (by omega);obtain rfl:i=n+2:=by omega
  have c1:(((n+2:Nat):Int)<((n+3:Nat):Int))=True:=eq_true (by omega);have ik:off+(n+2)<X.length:=by omega
  have Kq:=fK ik;rw[Xe _ (.inr (aLt _))]at Kq;have hvV:val (Vl.take (n+2))=val Vl:=by rw[<-hn,aPo]
  rw[hvV]at hv;have hu0:=fA MR (i:=off+(n+2));have hms:=kG (U:=U) (off:=off) (k:=n+2);generalize hw:U.getD (off+(n+2)) 0=u0 at Kq hu0 hms;have w1:aW .i64 (u0:Int)=u0:=qV;have w2:aW .i64 (c:Int)=c:=qV;obtain⟨t1,XL⟩:∃t1:Int,t1=(u0:Int)-(b:Int):=⟨_,rfl⟩;obtain⟨t2,ht2⟩:∃t2:Int,t2=t1-(c:Int):=⟨_,rfl⟩;have w3:aW .i64 ((u0:Int)-(b:Int))=t1:=by rw[XL];exact wrap_i64
  have w4:aW .i64 (t1-(c:Int))=t2:=by rw[ht2];exact wrap_i64
  have dx:=fun z H=>qj (H:=H) (z:=z) ik
  by_cases o9:t2<0
  ·have Sv:decide (t2≥0)=false:=bh (by omega);obtain⟨r,hr,M7⟩:∃r:Nat,(r:Int)=t2%4294967296/\r<4294967296:=⟨(t2%4294967296).toNat,by omega,by omega⟩;have w5:aW .u32 t2=(r:Int):=by rw[og,hr]
   have hq0:0<q:=ame (Ht Sr) (show 0<c+b by omega) hv;simp only[↓aL,jg,aJ,↓reduceIte,aa,ae,cu,↓ef fX kd2,↓ef gT kd2,↓ef kd2 fX,hl,g0,g5,g9,g10,g85,g86,oW,Kq,c1,w1,w2,w3,w4,w5,Sv,dx,dZ,eJ,AV.cells];refine Wn (kc:=kc) (W:=X.set (off+(n+2)) r) (t:=t2) hV hn Qp hU hUl (by simpa using hX) (cZ Sr M7) ?_ o9 (by omega) ?_ hq0 hq ?_ hle (by simp[bc,hl]) ?_ ?_ ?_ ?_
   ·intro j hj;rw[od];exact Xe j (by omega)
   ·rw[ZY ik];exact hr
   ·rw[Dq (aLt _),hms];exact Z7 hv (by rw[ht2,XL])
   all_goals simp only[aY,ae,g0,g1,g5,g7]
  ·have Sv:decide (t2≥0)=true:=bj;obtain⟨r,w5,M7,hre⟩:∃r:Nat,aW .u32 t2=(r:Int)/\r<4294967296/\u0+4294967296*0=r+b+c:=by refine⟨u0-b-c,?_⟩;rw[ht2,XL];exact Lu hu0
   have wq:aW .u32 (q:Int)=(q:Int):=by rw[wrap_u32,aSm hq]
   simp only[↓aL,jg,aJ,↓reduceIte,aa,ae,cu,↓ef fX kd2,↓ef gT fX,↓ef gT kd2,↓ef kd2 fX,hl,g0,g5,g7,g9,g10,g85,g86,oW,Kq,c1,w1,w2,w3,w4,w5,wq,Sv,dx,dZ,eJ,AV.cells];have lE:=aeT (u0:=u0) (t:=r) hv (by omega);rw[<-hms,<-jV ik]at lE;refine⟨q,X.set (off+(n+2)) r,rfl,rfl,hq,by simpa using hX,cZ Sr M7,?_,lE,?_⟩
   ·intro j hj;rw[od];exact Xe j (by omega)
   ·have:(q+1)*val Vl=q*val Vl+val Vl:=by rw[aLX,aTj]
    show oY _ off (n+2+1)<_
    rw[show n+3=n+2+1 from rfl]at hup hle;omega
def Lt{q v:Nat}(h:0<q:=by omega):(q-1)*v+v=q*v:=by obtain⟨k,rfl⟩:=Nat.exists_eq_succ_of_ne_zero (Nat.ne_of_gt h);rw[Nat.succ_mul];rfl
def Mw{vv:AV}{U Vl:List Nat}{off n kc:Nat}{H1:Hp}(hV:eB vv Vl)(hn:Vl.length=n+2)(Qp:n<10000000000)(hU:off+(n+3)<=U.length)(hUl:U.length<20000000000)
  (MR:∀d∈U,d<4294967296) (XN:2147483648<=Vl.getD (n+1) 0) (eh:oY U off (n+3)<4294967296*val Vl):
  ∃r H',cV E 190 [.aI 0 off (n+3) 1 kc,vv] (.cells .live (cB U)::H1)=some (r,H')/\aa8 U Vl off n H1 r H':=by
 refine gi2 (gd C) (by rw[C.fn];exact arw) (by decide) ?_;intro ts hl g0 g1;have T:=gW C.toOver;have L:=adT hn (by omega) MR hV.1 (by omega) eh;have lE:∀(q:Nat) (ts:List AV),q<4294967296->oY U off (n+3)/val Vl<=q->q*val Vl<=oY U off (n+3)+val Vl->ts.length=173->gt ts 0=.aI 0 off (n+3) 1 kc->gt ts 1=vv->gt ts 5=.int .i64 ((n+2:Nat):Int)->gt ts 7=.int .u64 (q:Nat)->
   V E Wo ts (.cells .live (cB U)::H1) (o6 E [.tmp 4] (aa8 U Vl off n H1)):=by
  intro q ts hq Qi hle hl g0 g1 g5 g7;refine ab6 (kc:=kc) hV hn Qp hU hUl MR hq ?_ hle hl g0 g1 g5 g7;have h1:=Nat.lt_mul_div_succ (oY U off (n+3)) L.v0;refine aN0 h1 ?_;rw[aSP];exact aLZ _ (by omega)
 rw[ab7];generalize Wo=D5 at lE
 dsimp only[Eg,FB,s8,Tryz.f190]
 have adL:=ji T hV (k:=.i64) (z:=((n+1:Nat):Int));have akX:=ji T hV (k:=.i64) (z:=((n:Nat):Int));rw[aRs]at adL akX;have ali:=fK (out:=Vl) (j:=n+1);have auz:=fK (out:=Vl) (j:=n);have aAJ:=fK (out:=U) (j:=off+(n+2));have aAK:=fK (out:=U) (j:=off+(n+1));have auy:=fK (out:=U) (j:=off+n);have bv1:=fA hV.1 (i:=n+1);have bv2:=fA hV.1 (i:=n);have bu0:=fA MR (i:=off+(n+2));have bu1:=fA MR (i:=off+(n+1));have bu2:=fA MR (i:=off+n);generalize Vl.getD (n+1) 0=v1 at*;generalize Vl.getD n 0=v2 at*;generalize U.getD (off+(n+2)) 0=u0 at*;generalize U.getD (off+(n+1)) 0=u1 at*;generalize U.getD (off+n) 0=u2 at*;have c2:(((n+2:Nat):Int)<((n+3:Nat):Int))=True:=eq_true (by omega);have c1:(((n+1:Nat):Int)<((n+3:Nat):Int))=True:=eq_true (by omega);have c0:(((n:Nat):Int)<((n+3:Nat):Int))=True:=eq_true (by omega);have w1:aW .i64 (((n+2:Nat):Int)-1)=((n+1:Nat):Int):=by rw[wrap_i64];omega
 have w2:aW .i64 (((n+2:Nat):Int)-2)=((n:Nat):Int):=by rw[wrap_i64];omega
 have wv1:aW .u64 (v1:Int)=v1:=wrap_u64;have wv2:aW .u64 (v2:Int)=v2:=wrap_u64;have wu0:aW .u64 (u0:Int)=u0:=wrap_u64;have wu1:aW .u64 (u1:Int)=u1:=wrap_u64;have wu2:aW .u64 (u2:Int)=u2:=wrap_u64;have az5:∀{cc:Bool} {t:Nat},cp E cc .or t (.int .u64 ((u0*4294967296:Nat):Int)) (.int .u64 (u1:Int))=some (.int .u64 ((u0*4294967296+u1:Nat):Int)):=by intro cc t;rw[xU,Ok bu1]
 have hv0:v1≠0:=by omega
 have hdl:(u0*4294967296+u1)/v1<=u0*4294967296+u1:=aS6 _ _;have wq:aW .u64 (((u0*4294967296+u1)/v1:Nat):Int)=(((u0*4294967296+u1)/v1:Nat):Int):=wrap_u64;have akk:=L.first;have Xl:=Nat.div_add_mod (u0*4294967296+u1) v1;have Jn:=aSR (u0*4294967296+u1) (show 0<v1 by omega);simp only[↓aL,jg,aJ,↓reduceIte,aa,ah,ae,gI,gX,↓Ct fX gT,xg fX gT,hl,g0,g1,lI hV,hn,adL,ali,aAJ,aAK,c1,c2,w1,wv1,wu0,wu1,sZ bu0,az5,GD hv0,mC hv0,wq,dZ];refine cC (fun k_ ts H=>∃q rest,k_=8589934592-rest/\ts.length=173/\gt ts 0=.aI 0 off (n+3) 1 kc/\gt ts 1=vv/\gt ts 5=.int .i64 ((n+2:Nat):Int)/\gt ts 7=.int .u64 (q:Nat)/\gt ts 8=.int .u64 (rest:Nat)/\H=.cells .live (cB U)::H1/\(q*v1+rest=u0*4294967296+u1)/\(oY U off (n+3)/val Vl<=q)) (8589934592-(u0*4294967296+u1)%v1) ?_ ?_
 rotate_left
 ·refine⟨(u0*4294967296+u1)/v1,(u0*4294967296+u1)%v1,(by first|omega|rfl|simp),(by simp[bc,hl]),?_⟩;simp only[aY,hl,aa,ae,g0,g1]
  iterate 6 refine cI ?_
  refine⟨?_,?_⟩
  ·first|(rw[aSP];exact Xl)|trivial
  ·first|exact akk|trivial
 clear hl g0 g1 ts;rintro k_ ts H ⟨q,rest,rfl,hl,g0,g1,g5,g7,g8,rfl,hq,Qi⟩;refine VS ?_;have aHT:q<=u0*4294967296+u1:=by
  have:q*1<=q*v1:=aRE _ (by omega)
  omega
 by_cases hr:rest<4294967296
 ·have dr:decide ((rest:Int)<4294967296)=true:=bj;have wr:aW .u64 ((rest:Int)+(v1:Int))=((rest+v1:Nat):Int):=by rw[<-aSo];exact wrap_u64
  by_cases hqB:4294967296<=q
  ·have dq:decide ((q:Int)≥4294967296)=true:=bj;have wq1:aW .u64 ((q:Int)-1)=((q-1:Nat):Int):=by rw[show(q:Int)-1=((q-1:Nat):Int)by omega];exact wrap_u64
   simp(maxSteps:=2000000)only[↓aL,jg,aJ,aa,ah,ae,gI,↓ef fX gT,xg fX gT,hl,g1,g5,g7,g8,dr,dq,w1,wv1,wr,wq1,adL,ali]
   refine bI ?_;refine⟨_,?_,q-1,rest+v1,rfl,(by simp[bc,hl]),?_⟩
   ·first|omega|(simp;omega)
   simp only[aY,hl,aa,ae,g0,g1,g5]
   iterate 6 refine cI ?_
   refine⟨?_,?_⟩
   ·have:(q-1)*v1+v1=q*v1:=Lt
    omega
   ·have:=L.ltB
    omega
  ·have dq:decide ((q:Int)≥4294967296)=false:=bh (by omega);have hqv:q*v2<=4294967295*4294967295:=aS8 (by omega) (by omega);have wm:aW .u64 ((q:Int)*(v2:Int))=((q*v2:Nat):Int):=by rw[<-aSn];exact wrap_u64
   have atA:∀{cc:Bool} {t:Nat},cp E cc .or t (.int .u64 ((rest*4294967296:Nat):Int)) (.int .u64 (u2:Int))=some (.int .u64 ((rest*4294967296+u2:Nat):Int)):=by intro cc t;rw[xU,Ok bu2]
   by_cases hc:q*v2>rest*4294967296+u2
   ·have dc:decide (((q*v2:Nat):Int)>((rest*4294967296+u2:Nat):Int))=true:=bj;have hq0:0<q:=aTg fun e=>by subst e;omega
    have wq1:aW .u64 ((q:Int)-1)=((q-1:Nat):Int):=by rw[show(q:Int)-1=((q-1:Nat):Int)by omega];exact wrap_u64
    simp(maxSteps:=2000000)only[↓aL,jg,aJ,↓reduceIte,aa,ah,ae,gI,↓Ct fX gT,↓ef fX gT,xg fX gT,hl,g0,g1,g5,g7,g8,dr,dq,dc,w1,w2,wv1,wv2,wu2,wm,wr,wq1,sZ hr,atA,adL,akX,ali,auz,auy,c0,dZ]
    refine bI ?_;refine⟨_,?_,q-1,rest+v1,rfl,(by simp[bc,hl]),?_⟩
    ·first|omega|(simp;omega)
    simp only[aY,hl,aa,ae,g0,g1,g5]
    iterate 6 refine cI ?_
    refine⟨?_,?_⟩
    ·have:(q-1)*v1+v1=q*v1:=Lt
     omega
    ·exact L.step hq Qi hc
   ·have dc:decide (((q*v2:Nat):Int)>((rest*4294967296+u2:Nat):Int))=false:=bh (by omega);obtain⟨l1,l2⟩:=L.last hq (.inr ⟨by omega,by omega⟩)
    simp(maxSteps:=2000000)only[↓aL,jg,aJ,↓reduceIte,aa,ah,ae,gI,↓Ct fX gT,xg fX gT,hl,g0,g1,g5,g7,g8,dr,dq,dc,w2,wv2,wu2,wm,sZ hr,atA,akX,auz,auy,c0,dZ]
    refine lE q _ l1 Qi l2 (by simp[bc,hl]) ?_ ?_ ?_ ?_
    all_goals simp only[aY,ae,g0,g1,g5,g7]
 ·have dr:decide ((rest:Int)<4294967296)=false:=bh (by omega);obtain⟨l1,l2⟩:=L.last hq (.inl (by omega))
  simp(maxSteps:=2000000)only[↓aL,jg,aJ,↓reduceIte,aa,ah,ae,xg fX gT,hl,g8,dr]
  refine lE q _ l1 Qi l2 (by simp[bc,hl]) ?_ ?_ ?_ ?_
  all_goals simp only[aY,ae,g0,g1,g5,g7]
def vE{l:List Nat}{off m:Nat}(h:off+m<=l.length:=by omega):val l=val (l.take off)+4294967296^off*(oY l off m+4294967296^m*val (l.drop (off+m))):=by
 have e1:l=l.take off++l.drop off:=(aPr off l).symm;have e2:l.drop off=(l.drop off).take m++(l.drop off).drop m:=(aPr m _).symm;have h1:(l.take off).length=off:=by rw[aPl];omega
 have h2:((l.drop off).take m).length=m:=by rw[aPl,aPj];omega
 conv=>lhs;rw[e1]
 rw[mz,h1]
 conv=>lhs;rw[e2]
 rw[mz,h2,List.drop_drop];rfl
def vZ{a b:List Nat}(hl:a.length=b.length)(h:∀j,j<a.length->a.getD j 0=b.getD j 0):a=b:=by
 refine List.ext_getElem hl fun j h1 h2=>?_
 have:=h j h1
 rw[aRt,aRt,aL6 h1,aL6 h2]at this;exact this
def getD_take{l:List Nat}{n j:Nat}(h:j<n:=by omega):(l.take n).getD j 0=l.getD j 0:=by rw[aRt,List.getElem?_take_of_lt h,aRt]
def getD_drop{l:List Nat}{n j:Nat}:(l.drop n).getD j 0=l.getD (n+j) 0:=by rw[aRt,aLy,aRt]
def O7{W W':List Nat}{off m:Nat}(h:off+m<=W.length)(hl:W'.length=W.length)(ho:∀j,(j<off∨off+m<=j)->W'.getD j 0=W.getD j 0):
  val W'+4294967296^off*oY W off m=val W+4294967296^off*oY W' off m:=by
 rw[vE h,vE (l:=W') (off:=off) (m:=m)];have e1:W'.take off=W.take off:=by
  refine vZ (by rw[aPl,aPl,hl]) fun j hj=>?_
  rw[aPl]at hj;rw[getD_take,getD_take,ho j (by omega)]
 have e2:W'.drop (off+m)=W.drop (off+m):=by
  refine vZ (by rw[aPj,aPj,hl]) fun j hj=>?_
  rw[getD_drop,getD_drop,ho _ (by omega)]
 rw[e1,e2,aRe,aRe];omega
def YZ{U:List Nat}{off m:Nat}(h:off<U.length):oY U off (m+1)=U.getD off 0+4294967296*oY U (off+1) m:=by unfold oY;rw[aRx h,List.take_succ_cons];simp[val,aRt,h]
def yU:∀{l:List Nat},(∀j,l.getD j 0=0)->val l=0
 |[],_=>rfl
 |d::l,h=>by
  have h0:=h 0;simp only[List.getD_cons_zero]at h0
  have:=yU (l:=l) fun j=>by have:=h (j+1);simpa using this
  simp[val,h0,this]
def afb{W:List Nat}{m:Nat}(hm:m<=W.length)(h:∀j,m<=j->W.getD j 0=0):val W=oY W 0 m:=by have h1:=vE (l:=W) (off:=0) (m:=m);rw[yU (l:=W.drop (0+m)) fun j=>by rw[getD_drop];exact h _ (by omega)]at h1;rw[h1];simp[val]
def Oe{U:List Nat}{off m K:Nat}(h:off+m=U.length)(hK:val U<4294967296^off*K):oY U off m<K:=by have h1:=vE (l:=U) (off:=off) (m:=m);rw[h,List.drop_length]at h1;simp only[val,aRF,aPm]at h1;refine aSU (a:=4294967296^off) ?_;generalize 4294967296^off=P at*;omega
def s7:∀{k x:Nat},0<x->x<2^k->2^(Lib.bitLenAux k x-1)<=x/\x<2^Lib.bitLenAux k x/\0<Lib.bitLenAux k x/\Lib.bitLenAux k x<=k
 |0,x,h0,h=>by simp at h;omega
 |k+1,x,h0,h=>by
  rw[Lib.bitLenAux,if_neg (by omega)];by_cases hx:x/2=0
  ·have:x=1:=by omega
   subst this;rw[hx]
   have:Lib.bitLenAux k 0=0:=by cases k<;>simp[Lib.bitLenAux]
   rw[this]
   simp
  ·obtain⟨h1,h2,h3,h4⟩:=s7 (k:=k) (x:=x/2) (by omega) (by rw[aRu]at h;omega);have e1:2^(1+Lib.bitLenAux k (x/2)-1)=2^(Lib.bitLenAux k (x/2)-1)*2:=by rw[<-aRu];congr 1;omega
   have e2:2^(1+Lib.bitLenAux k (x/2))=2^(Lib.bitLenAux k (x/2))*2:=by rw[<-aRu];congr 1;omega
   rw[e1,e2];omega
def ON{x:Nat}(h0:0<x)(h:x<4294967296):∃n:Nat,n<32/\(32-(Lib.bitLen x:Int))=(n:Int)/\2147483648<=x*2^n/\(x+1)*2^n<=4294967296:=by
 obtain⟨h1,h2,h3,_⟩:=s7 (k:=64) h0 (by omega);have h4:Lib.bitLenAux 64 x<=32:=by
  refine aS4 fun eh=>?_
  have:2^32<=2^(Lib.bitLenAux 64 x-1):=aSS (by omega) (by omega)
  omega
 refine⟨32-Lib.bitLenAux 64 x,by omega,by unfold Lib.bitLen;omega,?_,?_⟩
 ·have:=aLZ (2^(32-Lib.bitLenAux 64 x)) h1
  rw[<-aSX,show Lib.bitLenAux 64 x-1+(32-Lib.bitLenAux 64 x)=31 by omega]at this;exact this
 ·have:=aLZ (2^(32-Lib.bitLenAux 64 x)) (show x+1<=2^Lib.bitLenAux 64 x by omega)
  rw[<-aSX,show Lib.bitLenAux 64 x+(32-Lib.bitLenAux 64 x)=32 by omega]at this;exact this
def Ts{n:Nat}:0<4294967296^n:=Nat.pow_pos (by decide)
def Y8{b V:List Nat}{m n:Nat}(hb:∀d∈b,d<4294967296)(hl:b.length=m+1)(hV:∀d∈V,d<4294967296)(hn:Norm V)(h1:2147483648<=b.getD m 0*2^n)(h2:(b.getD m 0+1)*2^n<=4294967296)(hv:val V=val b*2^n):
  V.length=m+1/\2147483648<=V.getD m 0:=by
 have eb:=qk (l:=b);rw[hl,cA]at eb;have lb:val (b.take m)<4294967296^m:=by
  have:=oQ (l:=b.take m) fun d hd=>hb d (aRC hd)
  rwa[aPl,aS7 (by omega)]at this
 have hP:=Ts (n:=m);have ik:4294967296^m*2147483648<=val V:=by
  rw[hv,<-eb];generalize 4294967296^m=P at*
  have:P*2147483648<=P*(b.getD m 0*2^n):=aRE _ h1
  rw[aLX,aRv];omega
 have ED:val V<4294967296^m*4294967296:=by
  rw[hv,<-eb];generalize 4294967296^m=P at*;have h3:(val (b.take m)+P*b.getD m 0)*2^n<P*(b.getD m 0+1)*2^n:=by refine aS2 ?_ (aSO n);rw[aRe,aRH];omega
  have h4:P*(b.getD m 0+1)*2^n<=P*4294967296:=by rw[aRv];exact aRE _ h2
  omega
 have hVl:=oQ hV;have ej:V≠[]:=by
  intro e;subst e
  simp only[val]at ik
  have:0<4294967296^m*2147483648:=Nat.mul_pos hP (by decide)
  omega
 have hVg:=Ak hn ej;have len:V.length=m+1:=by
  have a1:m<V.length:=by refine(aSV (a:=4294967296) (by omega)).1 ?_;generalize 4294967296^m=P at*;generalize 4294967296^V.length=Q at*;omega
  have a2:V.length-1<m+1:=by refine(aSV (a:=4294967296) (by omega)).1 ?_;rw[aRu];generalize 4294967296^m=P at*;generalize 4294967296^(V.length-1)=Q at*;omega
  omega
 refine⟨len,?_⟩;have eV:=qk (l:=V);rw[len,cA]at eV;have lV:val (V.take m)<4294967296^m:=by
  have:=oQ (l:=V.take m) fun d hd=>hV d (aRC hd)
  rwa[aPl,aS7 (by omega)]at this
 rw[<-eV]at ik;generalize 4294967296^m=P at*;have h5:P*2147483648<P*(V.getD m 0+1):=by rw[aRe,aRH];omega
 have:=aSU h5
 omega
def Z4{a b V:List Nat}{n:Nat}(ha:∀d∈a,d<4294967296)(hb:Norm b)(ej:b≠[])(hle:b.length<=a.length)(hV:val V=val b*2^n):val a*2^n<4294967296^(a.length-b.length)*(4294967296*val V):=by
 have h1:=oQ ha;have h2:=Ak hb ej;have hl:0<b.length:=aS1.2 ej;have e:a.length=(a.length-b.length)+1+(b.length-1):=by omega
 rw[hV];have h3:val a*2^n<4294967296^a.length*2^n:=aS2 h1 (aSO n);refine aN0 h3 ?_;rw[e,aSX,aRu];rw[<-e];have e2:4294967296^(a.length-b.length)*(4294967296*(val b*2^n))=4294967296^(a.length-b.length)*4294967296*val b*2^n:=by ac_rfl
 rw[e2];exact aLZ _ (aRE _ h2)
def rI{E:Env}{f:Nat}{al:List AV}{r:AV}(h:E.ov f al=some r)(hp:bF E f=false):aP E f al=some r:=by
 refine dB ⟨fun fi lT=>?_,0,?_⟩
 ·unfold bF at hp;rw[lT]at hp;obtain⟨code,ntmps,results,pu,du⟩:=fi;cases pu
  ·simp at hp
  ·rfl
 ·unfold call jF;rw[h]
def adW{x:Nat}(h:x<4294967296):aP E 188 [.int .u32 (x:Int)]=some (.int .i64 (32-(Lib.bitLen x:Int))):=by
 refine rI ?_ at6;rw[C.ovX _ _ (by decide)];rw[show iC Bo 188 [.int .u32 (x:Int)]=Zo [.int .u32 (x:Int)]by simp[iC,Bo]];unfold Zo;simp only;rw[if_pos ⟨by omega,by omega⟩]
 simp
def aBE{H:Hp}{m i j:Nat}(tJ:i<j)(hj:j<=m):HT E H 56 (.aI 0 0 m 1 m) (some (.int .i64 (i:Int))) (some (.int .i64 (j:Int)))=some (.aI 0 i (j-i) 1 (m-i)):=by
 obtain⟨ti,e,ei,h1,h2,h3,h4,h5,_⟩:=kn (Br (E:=E));obtain⟨cD,jA,jS,jB,jZ,dK⟩:=ti;simp only at h2;subst h2;have hb:fN m m (some (.int .i64 (i:Int))) (some (.int .i64 (j:Int)))=some (i,j):=by simp only[fN,hiE,asNat,loE];rw[if_pos ⟨by omega,by omega⟩];simp only[aRs];rw[if_pos ⟨by omega,by omega⟩]
 simp only[HT,h1,gg,h3,hb];rw[if_neg (by omega)];by_cases hi:i=0
 ·subst hi;simp
 ·rw[if_neg hi,if_neg (by omega)];simp[]
def ab8{A B Q W p:Nat}(h:A*p=Q*(B*p)+W)(eh:W<B*p)(hp:0<p):Q=A/B/\W/p=A%B:=by
 have h1:A=Q*B+W/p:=by
  have h2:(Q*B*p+W)/p=Q*B+W/p:=by rw[aSZ,aTb _ _ hp,aSZ]
  rw[<-h2,aRv,<-h,aTf _ hp]
 have h3:W/p<B:=aTc (by rw[aSP];exact eh);have hB:0<B:=aSQ (Nat.zero_le _) h3;generalize W/p=R at*;subst h1;rw[aSZ,aTb _ _ hB,Nat.add_mul_mod_self_right,aS3 h3,aSm h3];omega
def bs1{aR:Nat}{x:Int}:bZ E aR 56 1 [(0,.int .u32 x)]=some (.aI aR 0 1 1 1,[(aR,.cells .live [.int .u32 x])]):=by obtain⟨i,e,ei,h1,h2,h3,h4,h5,h6,h7⟩:=kn (Br (E:=E));obtain⟨cD,jA,jS,jB,jZ,dK⟩:=i;simp only at h2;subst h2;simp[bZ,h1,h3,h7,h5,fP,gJ,AV.cells]
def TD{cs:List AV}{n:Nat}:bQ (.aK cs n)=false:=rfl
def aaf{cs:List AV}:cE.j8 (.cells .live cs)=.cells .ro cs:=rfl
def CQ{H:Hp}{b m:Nat}{l:List Nat}{st:qW}(h:H[b]?=some (.cells st (cB l)))(hd:st≠ .dead)(hm:l.length=m):sI false H [.aI b 0 m 1 m]=some ([.aK (cB l) m],[b]):=by subst hm;rw[xF];exact tD h hd
def aag{P M X d v:Nat}(h:M=X+P*d)(hm:M<v)(hv:v<P):d=0:=by
 refine Nat.eq_zero_of_not_pos fun hd=>?_
 have:P*1<=P*d:=aRE _ hd
 omega
def ad7{P M X d v x:Nat}(h:M=X+P*d)(hm:M<v)(hx:x<4294967296):x+4294967296*X<4294967296*v:=by
 have h1:X+1<=v:=by omega
 have h2:=aRE 4294967296 h1;omega
def Wr{U W W' Q:List Nat}{i n q v:Nat}(hW:W.length=U.length)(hU:i+(n+3)<=U.length)(Xd:W'.length=W.length)(ho:∀j,(j<i∨i+(n+3)<=j)->W'.getD j 0=W.getD j 0)(hm:oY W' i (n+3)+q*v=oY W i (n+3))(hQ:i<Q.length)
  (hv:val U=4294967296^(i+1)*(val (Q.drop (i+1))*v)+val W):val U=4294967296^i*(val ((Q.set i q).drop i)*v)+val W':=by
 have h1:=O7 (W:=W) (W':=W') (off:=i) (m:=n+3) (by omega) Xd ho;have h2:val ((Q.set i q).drop i)=q+4294967296*val (Q.drop (i+1)):=by
  have:=vY (l:=Q) (k:=i+1) (d:=q)
  simpa using this
 rw[h2,hv,aRu];rw[<-hm]at h1;generalize 4294967296^i=P at*;generalize val (Q.drop (i+1))=D at*;generalize oY W' i (n+3)=M at*;have e1:P*4294967296*(D*v)+P*(q*v)=P*((q+4294967296*D)*v):=by
  rw[aLX,aRe]
  have:P*4294967296*(D*v)=P*(4294967296*D*v):=by ac_rfl
  omega
 rw[aRe]at h1;omega
def Au{va vb:AV}{a b:List Nat}(ha:eB va a)(hb:eB vb b)(na:Norm a)(nb:Norm b)(ej:b≠[])(la:a.length<10000000000)(lb:b.length<10000000000):
  ∃q r,aP E 137 [va,vb]=some (.tuple [q,r])/\∃ql rl,eB q ql/\Norm ql/\val ql=val a/val b/\eB r rl/\Norm rl/\val rl=val a%val b:=by
 suffices hh:∃u,aP E 137 [va,vb]=some u/\∃q r,u=.tuple [q,r]/\∃ql rl,eB q ql/\Norm ql/\val ql=val a/val b/\eB r rl/\Norm rl/\val rl=val a%val b by
  obtain⟨u,h1,q,r,rfl,h2⟩:=hh;exact⟨q,r,h1,h2⟩
 refine oA aq2 ?_;intro ts hl g0 g1;have T:=gW C.toOver;unfold aoz;have G1:=dB (rG C ha hb na nb);have pa:=aO ha;have pb:=aO hb;by_cases eh:val a<val b
 ·have hd:decide (mL (val a) (val b)<0)=true:=bj (by unfold mL;rw[if_pos (by omega)];decide);simp only[↓aL,jg,↓aS,aJ,aa,ae,Tryz.f137,hl,g0,g1,G1,pa,pb,hd];exact⟨_,_,rfl,[],a,⟨by simp,.inr ⟨rfl,.inl rfl⟩⟩,by intro d l0 h;simp at h,by rw[aS3 eh];rfl,ha,na,(aSm eh).symm⟩
 have hd:decide (mL (val a) (val b)<0)=false:=bh (by unfold mL;rw[if_neg (by omega)];split<;>decide);have CW:0<b.length:=aS1.2 ej;by_cases h1:b.length=1
 ·obtain⟨x,rfl⟩:∃x,b=[x]:=by
   match b,h1 with
   |[x],_=>exact⟨x,rfl⟩
  have qe:x<4294967296:=hb.1 x (by simp);have AD:x≠0:=nb x [] rfl;have Uo:(((([x]:List Nat).length:Nat):Int)==1)=true:=rfl;have JE:=ji T hb (k:=.i64) (z:=0) (by omega) (by simp);have LW:(cB [x])[0]?=some (.int .u32 (x:Int)):=rfl;obtain⟨r0,se,ql,hq,vQ,hqv⟩:=OP C ha (by omega) AD qe;have C4:val [x]=x:=by simp[val]
  rw[C4];have akB:val a%x<4294967296:=Nat.lt_trans (aSR _ (by omega)) qe;have Bf:eB (.aK (cB [val a%x]) 1) [val a%x]:=⟨by simpa using akB,.inl rfl⟩;obtain⟨r,hr,Ee⟩:=je C Bf (by simp);have kB:=dB hr;have gH:sI false [.cells .live [.int .u32 ((val a%x:Nat):Int)]] [.aI 0 0 1 1 1]=some ([.aK (cB [val a%x]) 1],[0]):=CQ (l:=[val a%x]) (st:=.live) rfl (by decide) rfl;simp only[↓aL,jg,↓aS,aJ,aa,ae,gI,gX,ar,cu,Tryz.f137,hl,g0,g1,G1,pa,pb,hd,lI hb,JE,LW,se,bs1,kH,gH,kB,aO hq,aO Ee];exact⟨_,_,rfl,ql,_,hq,vQ,hqv,Ee,iT _,by rw[hJ];simp[val]⟩
 obtain⟨n,hn⟩:∃n,b.length=n+2:=⟨b.length-2,by omega⟩;have Uo:((b.length:Int)==1)=false:=by rw[beq_eq_false_iff_ne];omega
 have hle:b.length<=a.length:=by
  refine aS4 fun h=>eh (vD ha.1 nb h)
 have wb1:aW .i64 ((b.length:Int)-1)=((n+1:Nat):Int):=by rw[wrap_i64];omega
 have JE:=ji T hb (k:=.i64) (z:=((n+1:Nat):Int));rw[aRs]at JE;have LW:=fK (out:=b) (j:=n+1);have qe:=fA hb.1 (i:=n+1);have AD:b.getD (n+1) 0≠0:=by refine nb _ (b.take (n+1)) ?_;have e:=(aPr (n+1) b).symm;rw[aRx (by omega),aSY (by omega)]at e;rw[aRt,aL6 (by omega)];exact e
 obtain⟨s,akO,hlz,hs1,Jq⟩:=ON (x:=b.getD (n+1) 0) (by omega) qe;have atw:=adW (E:=E) qe;rw[hlz]at atw;obtain⟨_,_,hra,U,rfl,rfl,hUl,MR,hUv⟩:=AU (E:=E) ha (by omega) akO (H0:=[]);obtain⟨_,_,hrb,Bt,rfl,rfl,hBl,hBd,hBv⟩:=AU (E:=E) hb (by omega) akO (H0:=[.cells .live (cB U)]);simp only[aQ9,List.nil_append]at hra;simp only[List.length_cons,aQ9,List.cons_append,List.nil_append,Nat.zero_add]at hrb;have Bf:eB (.aK (cB Bt) (b.length+1)) Bt:=⟨hBd,.inl (by rw[hBl])⟩;obtain⟨vv,hvv,hvm⟩:=je C Bf;have aAs:=dB hvv;have hVn:=iT Bt;have hVv:=hJ Bt;rw[hBv]at hVv;generalize iG Bt=Vl at hvm hVn hVv;obtain⟨hVl,hVt⟩:=Y8 hb.1 hn hvm.1 hVn hs1 Jq hVv;obtain rfl:vv=.aK (cB Vl) (n+2):=by
  rcases hvm.2 with h|⟨h,_⟩
  ·rw[h,hVl]
  ·rw[h]at hVl;simp at hVl
 have atM:=Z4 ha.1 nb ej hle hVv;rw[<-hUv]at atM;have azF:sI false [.cells .live (cB U),.cells .live (cB Bt)] [.aI 1 0 (b.length+1) 1 (b.length+1)]=some ([.aK (cB Bt) (b.length+1)],[1]):=CQ (st:=.live) rfl (by decide) hBl;obtain⟨K,hK⟩:∃K,K=a.length-b.length+1:=⟨_,rfl⟩;have wab:aW .i64 ((a.length:Int)-(b.length:Int))=((a.length-b.length:Nat):Int):=by rw[wrap_i64];omega
 have wK:aW .i64 (((a.length-b.length:Nat):Int)+1)=(K:Int):=by rw[wrap_i64];omega
 have wK1:aW .i64 ((K:Int)-1)=(K:Int)-1:=wrap_i64;simp only[↓aL,jg,↓aS,aJ,↓reduceIte,aa,ah,ae,gI,gX,Hn,cu,Tryz.f137,hl,g0,g1,G1,pa,pb,hd,lI ha,lI hb,Uo,wb1,JE,LW,atw,hra,hrb,azF,aAs,TD,oq,aaf,wab,wK,wK1,ahh (show K<=100000000000 by omega),K5,jM,kH];refine cC (fun k_ ts H=>∃m W Q,k_=0+m/\ts.length=79/\gt ts 4=.aI 2 0 K 1 K/\gt ts 8=.int .i64 (s:Int)/\gt ts 9=.aI 0 0 (a.length+1) 1 (a.length+1)/\gt ts 10=.aK (cB Vl) (n+2)/\gt ts 11=.int .i64 ((m:Int)-1)/\H=[.cells .live (cB W),.cells .ro (cB Bt),.cells .live (cB Q)]/\(m<=K)/\(W.length=a.length+1)/\(∀d∈W,d<4294967296)/\(Q.length=K)/\(∀d∈Q,d<4294967296)/\(∀j,m+(n+2)<=j->W.getD j 0=0)/\(0<m->oY W (m-1) (n+3)<4294967296*val Vl)/\(m<K->oY W m (n+2)<val Vl)/\(val U=4294967296^m*(val (Q.drop m)*val Vl)+val W)) (K) ?_ ?_
 rotate_left
 ·refine⟨K,U,List.replicate K 0,(by first|omega|rfl|simp),(by simp[bc,hl]),?_⟩;simp only[aY,hl,aa,ae]
  iterate 6 refine cI ?_
  refine⟨?_,?_,?_,?_,?_,?_,?_,?_,?_⟩
  ·first|omega|trivial
  ·first|exact hUl|trivial
  ·first|exact MR|trivial
  ·first|simp|trivial
  ·first|exact BM|trivial
  ·first|(intro j hj;rw[aRt,aLv (by omega)];rfl)|trivial
  ·first|(intro _;rw[show K-1=a.length-b.length by omega];exact Oe (by omega) atM)|trivial
  ·first|(intro h;omega)|trivial
  ·first|(rw[aSY (by simp)];simp[val])|trivial
 clear hl g0 g1 ts;rintro k_ ts H ⟨m,W,Q,rfl,hl,g4,g8,g9,g10,g11,rfl,hk,hW,hWd,hQ,hQd,hWz,hW1,Bd,hv⟩;refine VS ?_;by_cases hk0:m=0
 ·subst hk0;have oW:decide ((0:Int)-1≥0)=false:=rfl;have hmq:eB (.aK (cB Q) K) Q:=⟨hQd,.inl (by rw[hQ])⟩;have hmw:eB (.aK (cB W) (a.length+1)) W:=⟨hWd,.inl (by rw[hW])⟩;obtain⟨qv,hqv,XE⟩:=je C hmq;obtain⟨wv,hwv,hwm⟩:=je C hmw;have aAd:=dB hqv;have aAu:=dB hwv;obtain⟨rv,hrv,rl,Ee,hrn,atG⟩:=Ho (E:=E) hwm (by obtain⟨z,hz⟩:=pU W;have:=congrArg List.length hz;rw[List.length_append]at this;omega) akO;have hfq:sI false [.cells .live (cB W),.cells .ro (cB Bt),.cells .live (cB Q)] [.aI 2 0 K 1 K]=some ([.aK (cB Q) K],[2]):=CQ (st:=.live) rfl (by decide) hQ;have hfw:∀c:Bool,sI false ((if c=true then cF.looks [2]else cF.marks [2]).app [.cells .live (cB W),.cells .ro (cB Bt),.cells .live (cB Q)]) [.aI 0 0 (a.length+1) 1 (a.length+1)]=some ([.aK (cB W) (a.length+1)],[0]):=by
   intro c;cases c
   ·exact CQ (st:=.live) rfl (by decide) hW
   ·exact CQ (st:=.live) rfl (by decide) hW
  simp only[↓aL,jg,↓aS,aJ,↓reduceIte,aa,ae,hl,g4,g8,g9,g11,oW,hfq,aAd,hfw,aAu,hrv,aO XE,aO hwm,aO Ee];have asz:=Bd (by omega);have Xu:=afb (W:=W) (m:=n+2) (by omega) (fun j hj=>hWz j (by omega));simp only[List.drop_zero,Nat.pow_zero,aTj]at hv;rw[hUv,hVv]at hv;rw[<-Xu,hVv]at asz;obtain⟨f1,f2⟩:=ab8 hv asz (aSO s);refine⟨_,_,rfl,_,rl,XE,iT _,by rw[hJ];exact f1,Ee,hrn,?_⟩;rw[atG,hJ];exact f2
 ·obtain⟨i,rfl⟩:∃i,m=i+1:=⟨m-1,by omega⟩;have ay1:gt ts 11=.int .i64 (i:Int):=by rw[g11];congr 1;omega
  have oW:decide ((i:Int)≥0)=true:=bj;have asy:=hW1 (by omega);rw[aTh]at asy;have e2:((i:Int)<((K:Nat):Int))=True:=eq_true (by omega);have wx:aW .i64 ((i:Int)+((n+2:Nat):Int))=((i+(n+2):Nat):Int):=by rw[<-aSo];exact qV
  have wy:aW .i64 (((i+(n+2):Nat):Int)+1)=((i+(n+2)+1:Nat):Int):=by rw[wrap_i64];omega
  have wz:aW .i64 ((i:Int)-1)=(i:Int)-1:=wrap_i64;have C2:∀H,HT E H 56 (.aI 0 0 (a.length+1) 1 (a.length+1)) (some (.int .i64 (i:Int))) (some (.int .i64 ((i+(n+2)+1:Nat):Int)))=some (.aI 0 i (n+3) 1 (a.length+1-i)):=by intro H;rw[aBE (by omega) (by omega),show i+(n+2)+1-i=n+3 by omega]
  obtain⟨_,_,azx,q,W',rfl,rfl,aAa,asE,asC,hWo,azV,Sy⟩:=Mw (E:=E) (off:=i) (kc:=a.length+1-i) (H1:=[.cells .ro (cB Bt),.cells .live (cB Q)]) hvm hVl (by omega) (by omega) (by omega) hWd hVt asy;have dx:=fun z H=>qj (H:=H) (z:=z) (out:=Q) (j:=i) (by omega)
  simp only[↓aL,jg,↓aS,aJ,↓reduceIte,aa,ah,ae,gX,YT,cu,hl,g4,g9,g10,ay1,e2,wx,wy,wz,C2,azx,dx,nF,jM,eJ,AV.cells];refine bI ?_;refine⟨_,?_,i,W',Q.set i q,rfl,(by simp[bc,hl]),?_⟩
  ·first|omega|(simp;omega)
  simp only[aY,hl,aa,ae,g4,g8,g9,g10]
  iterate 6 refine cI ?_
  refine⟨?_,?_,?_,?_,?_,?_,?_,?_,?_⟩
  ·omega
  ·rw[asE,hW]
  ·exact asC
  ·simpa using hQ
  ·exact cZ hQd aAa
  ·intro j hj;by_cases LN:i+(n+3)<=j
   ·rw[hWo j (.inr LN)];exact hWz j (by omega)
   ·obtain rfl:j=i+(n+2):=by omega
    have h5:=kG (U:=W') (off:=i) (k:=n+2);have h6:=oQ hvm.1;rw[hVl]at h6;rw[show n+3=n+2+1 from rfl]at Sy;exact aag h5 Sy h6
  ·intro hi;obtain⟨i',rfl⟩:∃i',i=i'+1:=⟨i-1,by omega⟩;rw[aTh,YZ (by omega)];have h5:=kG (U:=W') (off:=i'+1) (k:=n+2);have h7:=fA asC (i:=i');rw[show n+3=n+2+1 from rfl]at Sy;exact ad7 h5 Sy h7
  ·intro _;have h5:=kG (U:=W') (off:=i) (k:=n+2);rw[show n+3=n+2+1 from rfl]at Sy;exact aSQ (by rw[h5];exact Nat.le_add_right _ _) Sy
  ·exact Wr (by rw[hW,hUl]) (by omega) asE hWo azV (by omega) hv
def yd{l:List Nat}{z:Int}(hn:Norm l)(hz:z.natAbs=val l)(h:Fit z):l.length<10000000000:=by
 obtain⟨n,h1,h2⟩:=h;by_cases he:l=[]
 ·subst he;simp
 ·have h3:=Ak hn he;have h4:l.length-1<n:=by
   have:4294967296^(l.length-1)<4294967296^n:=by omega
   exact(aSV (by omega)).1 this
  omega
def qg{a b:List Nat}(ha:∀d∈a,d<4294967296)(nb:Norm b)(h:val b<=val a):b.length<=a.length:=by
 refine aS4 fun eh=>?_
 have:=vD ha nb eh
 omega
def tH{v w:AV}{x y:Int}(h:eA v x)(k:eA w y)(fx:Fit x)(fy:Fit y):∃r,aP E 109 [v,w]=some r/\eA r ((Int.gcd x y:Nat):Int):=by
 obtain⟨na,m,a,rfl,hm,hn,o9,rfl⟩:=h;obtain⟨nb,m',b,rfl,ky,xk,Jo,rfl⟩:=k;have la:=yd hn nu fx;have lb:=yd xk nu fy;refine oA aqT ?_;intro ts hl g0 g1;have T:=gW C.toOver;unfold aoq;have hg:Int.gcd (if na=true then-(val a:Int)else val a) (if nb=true then-(val b:Int)else val b)=Nat.gcd (val a) (val b):=by unfold Int.gcd;rw[nu,nu]
 rw[hg];simp only[↓aL,jg,Cg,aJ,aa,ah,ae,Tryz.f109,hl,g0,g1];refine cC (fun k_ ts H=>∃xv xl yv yl,k_=0+val yl/\ts.length=26/\gt ts 4=.bK 2 0/\gt ts 5=xv/\gt ts 6=yv/\H=[.cells .live [.bool na,m],.cells .live [.bool nb,m'],.cells .live [.bool false,.aH]]/\(eB xv xl)/\(eB yv yl)/\(Norm xl)/\(Norm yl)/\(xl.length<10000000000)/\(yl.length<10000000000)/\(Nat.gcd (val xl) (val yl)=Nat.gcd (val a) (val b))) (val b) ?_ ?_
 rotate_left
 ·refine⟨m,a,m',b,(by first|omega|rfl|simp),(by simp[bc,hl]),?_⟩;simp only[aY,hl,aa,ae]
  iterate 4 refine cI ?_
  refine⟨?_,?_,?_,?_,?_,?_,?_⟩
  ·first|exact hm|trivial
  ·first|exact ky|trivial
  ·first|exact hn|trivial
  ·first|exact xk|trivial
  ·first|exact la|trivial
  ·first|exact lb|trivial
  ·first|trivial|trivial
 clear hl g0 g1 ts;rintro k_ ts H ⟨xv,xl,yv,yl,rfl,hl,g4,g5,g6,rfl,hx,hy,nx,ny,lx,ly,akn⟩;refine VS ?_;by_cases hyn:yl=[]
 ·subst hyn;have hd:decide (((([]:List Nat).length:Nat):Int)>0)=false:=rfl;simp only[↓aL,jg,Cg,aJ,↓reduceIte,aa,ah,ae,au,hl,g4,g5,g6,lI hy,(bB hx).1,(bB hx).2,aO hx];refine⟨false,xv,xl,rfl,hx,nx,by simp,?_⟩;simp only[val,Nat.gcd_zero_right]at akn;rw[<-akn];rfl
 ·have hyl:0<yl.length:=aS1.2 hyn;have hyp:=BS ny hyn;have hd:decide ((yl.length:Int)>0)=true:=bj;obtain⟨qv,rv,hdv,ql,rl,hq,nq,vq,hr,nr,vr⟩:=Au (E:=E) hx hy nx ny hyn lx ly;simp only[↓aL,jg,Cg,↓aS,aJ,aa,ah,ae,hl,g5,g6,lI hy,hd,hdv,aO hx,aO hy];have eh:val rl<val yl:=by rw[vr];exact aSR _ hyp
  refine bI ?_;refine⟨_,?_,yv,yl,rv,rl,rfl,(by simp[bc,hl]),?_⟩
  ·first|omega|(simp;omega)
  simp only[aY,hl,aa,ae,g4]
  iterate 4 refine cI ?_
  refine⟨?_,?_,?_,?_,?_,?_,?_⟩
  ·exact hy
  ·exact hr
  ·exact ny
  ·exact nr
  ·exact ly
  ·exact aSQ (qg hy.1 nr (by omega)) ly
  ·rw[vr,<-akn,Nat.gcd_comm (val xl),Nat.gcd_rec (val yl) (val xl),Nat.gcd_comm]
def ab0{s:List UInt8}:(AV.str s).cells=[.str s]:=rfl
def abZ{k:IntKind}{n:Int}:(AV.int k n).cells=[.int k n]:=rfl
def abY{b:Bool}:(AV.bool b).cells=[.bool b]:=rfl
def alE{s:List UInt8}:cN (.str s)=true:=rfl
def alC{k:IntKind}{n:Int}:cN (.int k n)=true:=rfl
def alB{b:Bool}:cN (.bool b)=true:=rfl
def alD:cN .aH=true:=rfl
def Rk{l:List AV}:eg (.agg l)=[]:=rfl
def aeI{l:List AV}{n:Nat}:eg (.aK l n)=[]:=rfl
def aeF:eg .aH=[]:=rfl
def aeC:eg .dw=[]:=rfl
def aeE{k:IntKind}{n:Int}:eg (.int k n)=[]:=rfl
def aeB{b:Bool}:eg (.bool b)=[]:=rfl
def aeG{s:List UInt8}:eg (.str s)=[]:=rfl
def aeH{l:List AV}:eg (.tuple l)=[]:=rfl
def ah3{b:Bool}:(b !=false)=b:=by cases b<;>rfl
def dy{v:AV}{z:Int}(h:eA v z):aU v=true:=by obtain⟨a,b,rfl,_,_,h1,h2⟩:=nZ h;simp[aU,aV,h1,h2]
def ZZ:Rq 0=0:=rfl
def mM{v w:AV}{x y:Int}(h:eA v x)(k:eA w y)(fx:Fit x)(fy:Fit y)(hy:0<y)(hd:y∣x):
  ∃q r,aP E 110 [v,w]=some (.tuple [q,r,.int .i64 0])/\eA q (x/y)/\eA r 0:=by
 suffices hh:∃u,aP E 110 [v,w]=some u/\∃q r,u=.tuple [q,r,.int .i64 0]/\eA q (x/y)/\eA r 0 by
  obtain⟨u,h1,q,r,rfl,h2⟩:=hh;exact⟨q,r,h1,h2⟩
 have zR:=jY C k;rw[show Rq y=1 by unfold Rq;split<;>(try split)<;>omega]at zR;have pv:=dy h;have pw:=dy k;obtain⟨na,m,a,rfl,hm,hn,o9,rfl⟩:=h;obtain⟨nb,m',b,rfl,ky,xk,Jo,rfl⟩:=k;have la:=yd hn nu fx;have lb:=yd xk nu fy;obtain rfl:nb=false:=by
  cases nb with
  |false=>rfl
  |true=>simp only[if_true]at hy;omega
 simp only[aLT,if_false]at hy hd;have hbp:0<val b:=by omega
 have Xg:b≠[]:=by intro e;subst e;simp[val]at hbp
 have Sv:val b∣val a:=by
  cases na with
  |false=>simp only[aLT,if_false]at hd;exact aSW.1 hd
  |true=>simp only[if_true]at hd;exact aSW.1 ((Int.dvd_neg).1 hd)
 obtain⟨qv,rv,hdv,ql,rl,hq,nq,vq,hr,nr,vr⟩:=Au (E:=E) hm ky hn xk Xg la lb;rw[Nat.mod_eq_zero_of_dvd Sv]at vr;have hql:ql.length<1000000000000:=by
  have:=qg hm.1 nq (by rw[vq];exact aS6 _ _)
  omega
 have hrl:rl.length<1000000000000:=by
  have:=qg (a:=[]) (by simp) nr (by rw[vr];exact Nat.zero_le _)
  simp only[aQ9]at this;omega
 obtain⟨q',hq',iq⟩:=iD C hq hql na;obtain⟨r',kB,ir⟩:=iD C hr hrl na;have cq:=dB hq';have cr:=dB kB;rw[vr]at ir;have ir0:eA r' 0:=by cases na<;>simpa using ir
 have hsr:=jY C ir0;have pq:=dy iq;have pr:=dy ir;refine oA aqU ?_;intro ts hl g0 g1;have T:=gW C.toOver;have Us:eA q' ((if na=true then-(val a:Int)else val a)/(if false=true then-(val b:Int)else val b)):=by
  rw[vq]at iq;cases na with
  |false=>simpa using iq
  |true=>
   simp only[if_true,aLT,if_false]at iq⊢;rw[Int.neg_ediv_of_dvd (aSW.2 Sv),<-Int.natCast_ediv];exact iq
 have zQ:=ir0;obtain⟨nq',mq',aq',rfl,azW,aHE,_,aIb⟩:=iq;obtain⟨nr',mr',ar',rfl,azX,aHF,_,aIc⟩:=ir0;unfold aor;simp only[↓aL,jg,Cg,↓aS,aJ,↓reduceIte,aa,ah,ae,Tryz.f110,pI bo4,aj,aD,aE,Rk,hl,g0,g1,zR,hdv,aO hq,aO hr,aO hm,aO ky,cq,cr,pw,pq,pr,hsr,ZZ,ah3,(bB azW).2,(bB azX).2];exact⟨_,_,rfl,Us,zQ⟩
end Go.Proofs.YtmkjgfnicfpjpaaGreatDoor
namespace Go.Proofs.YtmkjgfnicfpjpaaGreatDoor
open Go Dv
variable{E:Env}[C:Ctx E]
def aon:=dJ (dJ @aaf @ab0 @abZ @abY) (dJ @alE @alC @alB @alD) (dJ @Rk @aeI @aeF @aeC) (dJ @aeE @aeB @aeG @aeH)
def aM:=And.intro jg (And.intro Cg aon)
end Go.Proofs.YtmkjgfnicfpjpaaGreatDoor
