/- A part of the proof that PairRefuses returns true for every input; no condition of its own. -/
import Derived.Test.YtblnjkjjedanaaaGreatDoorTan
set_option linter.all false
set_option maxHeartbeats 100000000
set_option maxRecDepth 100000
open Nat renaming mul_add->aQa,mul_le_mul_left->aQn,pow_succ->aQi,mul_comm->aRV,two_pow_pos->aRW,mul_le_mul_right->aL8,le_refl->aLr,lt_of_lt_of_le->aNU,pow_le_pow_right->aRX,mul_assoc->aQl,mod_lt->aRY,add_zero->aR0,lt_of_mul_lt_mul_left->aR1,mul_zero->aRs,lt_of_le_of_lt->aR2,pow_add->aR3,shiftLeft_add_eq_or_of_lt->aR5,mul_one->aQq,mul_lt_mul_of_pos_right->aR6,mod_eq_of_lt->aRk,pow_lt_pow_iff_right->aR8,mod_add_div->aR9,min_eq_left->aSa,add_mul->aMb,mul_le_mul->aSb,mul_mod_mul_right->aSc,div_lt_iff_lt_mul->aSd,div_mul_le_self->aSg,pos_of_ne_zero->aSh,reduceLT->aa,reduceEqDiff->ae,reduceAdd->ah
open List renaming getD->aP8,length_take->aMp,getElem?_set_self->aOc,getElem?_set_ne->aN9,mem_of_mem_take->aQj,take_of_length_le->aP6,length_drop->aR4,take_length->aR7,getElem?_eq_getElem->aMh,getElem?_eq_none->aLB,take_append_drop->aSe,take_set_of_le->aSf,getElem?_drop->aK8
open Int renaming mul_le_mul_of_nonneg_left->aRZ,toNat_natCast->aQe,natCast_mul->aRp,natCast_add->aRq,emod_eq_of_lt->aSi,reduceLT->ao
namespace Go.Proofs.YtblnjkjjedanaaaGreatDoor
open Go Dv
variable{E:Env}[C:Ctx E]
theorem gV{v:AV}{l:List Nat}(h:fG v l):jP v=some (l.length:Int):=by
 rcases h.2 with rfl|⟨rfl,rfl|rfl⟩<;>rfl
theorem O5{d n:Nat}(hd:d<4294967296)(hn:n<32):d*2^n<9223372036854775808:=by have h1:2^n<=2^31:=aRX (by omega) (by omega);have h2:d*2^n<=4294967295*2^31:=aSb (by omega) h1;omega
theorem ac4{d n:Nat}(hn:n<32):∃q,d*2^n%4294967296=q*2^n:=by
 refine⟨d%2^(32-n),?_⟩
 have:(4294967296:Nat)=2^(32-n)*2^n:=by rw[<-aR3,show 32-n+n=32 by omega]
 rw[this,aSc]
theorem Xm{r d n:Nat}(hr:r<2^n)(hn:n<32):(r|||(d*2^n%4294967296))=r+d*2^n%4294967296:=by
 obtain⟨q,hq⟩:=ac4 (d:=d) hn;rw[hq]
 have:=aR5 (i:=n) (b:=r) hr q
 rw[Nat.shiftLeft_eq]at this;rw[Nat.or_comm,<-this,Nat.add_comm]
theorem ajM{d n:Nat}(hd:d<4294967296):d*2^n/4294967296<2^n:=by rw[aSd (by omega),aRV];exact Nat.mul_lt_mul_of_pos_left hd (aRW n)
theorem aqB{r d n:Nat}(hr:r<2^n)(hn:n<32):r+d*2^n%4294967296<4294967296:=by rw[<-Xm hr hn];have h1:2^n<=2^32:=aRX (by omega) (by omega);exact Nat.or_lt_two_pow (n:=32) (by omega) (aRY _ (by decide))
theorem Cp{v:AV}{a:List Nat}(ha:fG v a)(la:a.length<10000000001){n:Nat}(hn:n<32){H0:Hp}:
  ∃r H',cL E 178 [v,.int .i64 (n:Int)] H0=some (r,H')/\∃out,r=.aI H0.length 0 (a.length+1) 1 (a.length+1)/\H'=H0++[.cells .live (cP out)]/\out.length=a.length+1/\(∀d∈out,d<4294967296)/\val out=val a*2^n:=by
 refine gi2 (by rw[C.ud]) (by rw[C.fn];exact anc) (by decide) ?_;intro ts hl g0 g1;have T:=jf C.toOver;unfold alW;have w1:aV .i64 ((a.length:Int)+1)=((a.length+1:Nat):Int):=by rw[wrap_i64 (by omega) (by omega)];simp
 simp only[↓aQ,kL,aK,aa,ae,jU,cR,Tryz.f178,hl,g0,gV ha,w1,afD (show a.length+1<=100000000000 by omega),Mb,eO];refine fh (fun k_ ts H=>∃i out,k_=a.length-i/\ts.length=40/\gt ts 1=.int .i64 (n:Int)/\gt ts 5=.aI H0.length 0 (a.length+1) 1 (a.length+1)/\gt ts 12=v/\gt ts 13=.int .i64 (a.length:Nat)/\gt ts 14=.int .i64 (i:Nat)/\H=H0++[.cells .live (cP out)]/\(i<=a.length)/\(out.length=a.length+1)/\(∀d∈out,d<4294967296)/\(out.getD i 0<2^n)/\(∀j,i<j->out.getD j 0=0)/\(val (out.take i)+4294967296^i*out.getD i 0=val (a.take i)*2^n)) (a.length) ?_ ?_
 rotate_left
 ·refine⟨0,List.replicate (a.length+1) 0,(by first|omega|rfl|(simp;done)),(by simp only[cK,hl]),?_⟩;simp only[cM,hl,aa,ae,g1]
  iterate 6 refine⟨by first|trivial|rfl|(congr 1;omega)|(simp;done)|(simp;omega),?_⟩
  refine⟨?_,?_,?_,?_,?_,?_⟩
  ·omega
  ·simp
  ·exact De
  ·simp[aP8];exact aRW n
  ·intro j hj;rw[aP8,List.getElem?_replicate];split<;>rfl
  ·simp[val,aP8]
 clear hl g0 g1 ts;rintro k_ ts H ⟨i,out,rfl,hl,g1,g5,g12,g13,g14,rfl,hi,ho,hd,hr,hz,hv⟩;refine VS ?_;by_cases uM:i<a.length
 ·have sD:decide ((i:Int)<(a.length:Int))=true:=cF (by omega);have F7:=kN T ha (k:=.i64) (z:=(i:Int)) (by omega) (by omega);rw[aQe]at F7;have Bi:=gW uM;have tk:=gN ha.1 (i:=i);generalize hx:a.getD i 0=x at Bi tk;have jN:i<out.length:=by omega
  have ahX:i+1<out.length:=by omega
  have ldo:=gW jN;have an9:=gN hd (i:=i);generalize hcq:out.getD i 0=c at ldo hr hv an9;have c1:((i:Int)<((a.length+1:Nat):Int))=True:=eq_true (by omega);have c2:(((i+1:Nat):Int)<((a.length+1:Nat):Int))=True:=eq_true (by omega);have w2:aV .i64 ((i:Int)+1)=((i+1:Nat):Int):=by rw[wrap_i64 (by omega) (by omega)];simp
  have hm:=O5 tk hn;have wx:aV .u64 (x:Int)=x:=wrap_u64 (by omega);have w3:aV .u64 ((x*2^n:Nat):Int)=((x*2^n:Nat):Int):=wrap_u64 (by omega);have sh1:∀{cc:Bool} {t:Nat},dy E cc .shl t (.int .u32 (x:Int)) (.int .i64 (n:Int))=some (.int .u32 ((x*2^n%4294967296:Nat):Int)):=by
   intro cc t;rw[IB (show n<=IntKind.u32.bits by show n<=32;omega),wrap_u32]
  have sh2:∀{cc:Bool} {t:Nat},dy E cc .shl t (.int .u64 (x:Int)) (.int .i64 (n:Int))=some (.int .u64 ((x*2^n:Nat):Int)):=by
   intro cc t;rw[IB (show n<=IntKind.u64.bits by show n<=64;omega),w3]
  have hor:∀{cc:Bool} {t:Nat},dy E cc .or t (.int .u32 (c:Int)) (.int .u32 ((x*2^n%4294967296:Nat):Int))=some (.int .u32 ((c+x*2^n%4294967296:Nat):Int)):=by intro cc t;rw[Qf an9 (aRY _ (by decide)),Xm hr hn]
  have ye:=fun z=>Rl (H:=H0) (z:=z) jN
  have WC:=fun z=>Rl (H:=H0) (z:=z) (out:=out.set i (c+x*2^n%4294967296)) (j:=i+1) (by simpa using ahX)
  simp only[↓aQ,kL,aK,↓reduceIte,aa,ah,ae,lH,cR,↓gL jT gU,↓gL gU jT,hl,g1,g5,g12,g13,g14,sD,F7,Bi,ldo,Ks,c1,c2,w2,wx,sh1,sh2,hor,ye,WC,Hy,kY,wrap_u32,AV.cells];refine dO ?_;refine⟨_,?_,i+1,(out.set i (c+x*2^n%4294967296)).set (i+1) (x*2^n/4294967296%4294967296),rfl,(by simp only[cK,hl]),?_⟩
  ·first|omega|(simp;omega)
  simp only[cM,hl,aa,ae,g1,g5,g12,g13]
  iterate 6 refine⟨by first|trivial|rfl|(congr 1;omega)|(simp;done)|(simp;omega),?_⟩
  refine⟨?_,?_,?_,?_,?_,?_⟩
  all_goals have Ok:=ajM (n:=n) tk
  all_goals have aGG:2^n<=2^32:=aRX (by omega) (by omega)
  all_goals have aoP:x*2^n/4294967296%4294967296=x*2^n/4294967296:=aRk (by omega)
  ·omega
  ·simpa using ho
  ·exact dK (dK hd (aqB hr hn)) (aRY _ (by decide))
  ·rw[aP8,aOc (by simpa using ahX),aoP];exact Ok
  ·intro j hj;rw[aP8,aN9 (by omega),aN9 (by omega)];exact hz j (by omega)
  ·rw[aSf (aLr _),fP jN,aoP];have e0:((out.set i (c+x*2^n%4294967296)).set (i+1) (x*2^n/4294967296)).getD (i+1) 0=x*2^n/4294967296:=by rw[aP8,aOc (by simpa using ahX)];rfl
   rw[e0,cN uM,hx,aMb,<-hv,aQa,aQi,aQl,aQl];have e2:4294967296^i*(x*2^n%4294967296)+4294967296^i*(4294967296*(x*2^n/4294967296))=4294967296^i*(x*2^n):=by rw[<-aQa,aR9]
   omega
 ·have sD:decide ((i:Int)<(a.length:Int))=false:=cH (by omega);obtain rfl:i=a.length:=by omega
  simp only[↓aQ,kL,↓reduceIte,aa,ae,hl,g5,g13,g14,sD];refine⟨out,rfl,ho,hd,?_⟩;have h1:=uv (l:=out) (i:=a.length) (by omega);rw[List.drop_of_length_le (by omega)]at h1;rw[h1];simp only[val,aRs,aR0];rw[hv,aP6 (aLr _)]
theorem zD{E:Env}{t n' rQ:Nat}{ag:Bool}{z:List AV}(h:eR E t=some (ag,n',rQ,z)){c:Bool}{a:AV}(ha:jP a≠none):dy E c .eql t a .aH=some (.bool (match a with|.aH=>true|_=>false)):=by
 obtain⟨i,e,ei,h1,h2,_⟩:=iB h;obtain⟨cS,isAgg,size,bytes,zero,eQ⟩:=i;simp only at h2;subst h2;cases a<;>first|(exact absurd rfl ha)|simp[dy,dy.BX,uw,h1]
theorem Kr{aM:Nat}:aW E aM 58 0 []=some (.aI aM 0 0 1 0,[(aM,.cells .live [])]):=by obtain⟨i,e,ei,h1,h2,h3,h4,h5,h6,h7⟩:=iB (CQ (E:=E));obtain⟨cS,isAgg,size,bytes,zero,eQ⟩:=i;simp only at h2;subst h2;simp[aW,h1,h3,h7,h5,hZ,iG]
theorem SU{l:List Nat}:(cP l).all b7=true:=by simp[cP,b7]
theorem RA{a:List Nat}(dM:0<a.length)(la:a.length<10000000001):aZ E [.cells .live []] 1 .append [58,58] [.aI 0 0 0 1 0,.aJ (cP a) a.length]=some (.aI 1 0 a.length 1 a.length,[(0,.cells .dead []),(1,.cells .live (cP a))]):=by
 obtain⟨i,e,ei,h1,h2,h3,h4,h5,h6,h7⟩:=iB (CQ (E:=E));have hs:sJ [.cells .live []] ei.size (.aJ (cP a) a.length)=some (cP a):=by simp[sJ,kf,qd,h5]
 have:=zk (E:=E) (H:=[.cells .live []]) (aM:=1) (b:=0) (off:=0) (len:=0) (kc:=0) (n:=a.length) (cs:=[]) h1 h2 h3 (x:=.aJ (cP a) a.length) rfl hs dM (by omega) SU (by simp[h7]) (by rw[h6];unfold gq;omega) (by omega) rfl (by omega) (by omega)
 rw[builtin_append h1 h2 rfl];simpa[h5]using this
theorem Nx{v:AV}(hv:v=.ef∨v=.aJ [] 0):aZ E [.cells .live []] 1 .append [58,58] [.aI 0 0 0 1 0,v]=some (.aI 0 0 0 1 0,[]):=by
 obtain⟨i,e,ei,h1,h2,h3,h4,h5,h6,h7⟩:=iB (CQ (E:=E));obtain⟨cS,isAgg,size,bytes,zero,eQ⟩:=i;simp only at h2;subst h2;rcases hv with rfl|rfl<;>simp[aZ,h1,fM,h3,vJ,pV,sJ,kf]
theorem NN{a:List Nat}(dM:0<a.length)(la:a.length<10000000001):cL E 211 [.aJ (cP a) a.length] []=some (.aI 1 0 a.length 1 a.length,[.cells .dead [],.cells .live (cP a)]):=by
 suffices hh:∃r H',cL E 211 [.aJ (cP a) a.length] []=some (r,H')/\(r=.aI 1 0 a.length 1 a.length/\H'=[.cells .dead [],.cells .live (cP a)])by
  obtain⟨r,H',h1,rfl,rfl⟩:=hh;exact h1
 refine gi1 (by rw[C.ud]) (by rw[C.fn];exact aes) (by decide) ?_;intro ts hl g0;unfold agv;simp only[↓aQ,kL,↓reduceIte,aa,ae,Tryz.f211,hl,g0,zD (CQ (E:=E)) (show jP (.aJ (cP a) a.length)≠none by simp[jP]),Kr,RA dM la,cJ.app,List.foldl_cons,List.foldl_nil,dP]
 first|done|trivial|exact⟨rfl,rfl⟩
theorem Kw{v:AV}(hv:v=.aH∨v=.ef∨v=.aJ [] 0):∃r H',cL E 211 [v] []=some (r,H')/\((r=.aH/\H'=[])∨(r=.aI 0 0 0 1 0/\H'=[.cells .live []])):=by
 refine gi1 (by rw[C.ud]) (by rw[C.fn];exact aes) (by decide) ?_;intro ts hl g0;unfold agv;rcases hv with rfl|hv
 ·simp only[↓aQ,kL,aa,ae,Tryz.f211,hl,g0,zD (CQ (E:=E)) (show jP .aH≠none by simp[jP])]
  first|trivial|exact .inl ⟨rfl,rfl⟩|exact .inl trivial
 ·have hn:dy E true .eql 58 v .aH=some (.bool false):=by
   rw[zD (CQ (E:=E)) (by rcases hv with rfl|rfl<;>simp[jP])];rcases hv with rfl|rfl<;>rfl
  simp only[↓aQ,kL,↓reduceIte,aa,ae,Tryz.f211,hl,g0,hn,Kr,Nx hv,cJ.app,List.foldl_cons,List.foldl_nil,dP]
  first|trivial|exact .inr ⟨rfl,rfl⟩|exact .inr trivial
theorem SC{x y n:Nat}(hx:x<4294967296)(hn:n<32):(x/2^n|||(y*4294967296/2^n%4294967296))=x/2^n+(y%2^n)*2^(32-n)/\x/2^n+(y%2^n)*2^(32-n)<4294967296:=by
 have hp:(4294967296:Nat)=2^(32-n)*2^n:=by rw[<-aR3,show 32-n+n=32 by omega]
 have h1:y*4294967296/2^n=y*2^(32-n):=by
  conv=>lhs;rw[hp,<-aQl]
  exact Nat.mul_div_cancel _ (aRW n)
 have h2:y*2^(32-n)%4294967296=(y%2^n)*2^(32-n):=by
  conv=>lhs;rw[hp,aRV (2^(32-n)) (2^n)]
  exact aSc _ _ _
 have h3:x/2^n<2^(32-n):=by rw[aSd (aRW n),<-hp];exact hx
 rw[h1,h2];have h4:=aR5 (i:=32-n) (b:=x/2^n) h3 (y%2^n);rw[Nat.shiftLeft_eq]at h4;refine⟨by rw[Nat.or_comm,<-h4,Nat.add_comm],?_⟩;have h5:(y%2^n+1)*2^(32-n)<=2^n*2^(32-n):=aL8 _ (aRY _ (aRW n));rw[aMb,Nat.one_mul,aRV (2^n) (2^(32-n)),<-hp]at h5;omega
theorem EL{P Q VO VA x r0:Nat}(QG:Q*(x/Q)+x%Q=x)(hv:Q*VO+r0=VA+P*(x%Q)):Q*(VO+P*(x/Q))+r0=VA+P*x:=by
 have e2:P*x=P*(Q*(x/Q))+P*(x%Q):=by rw[<-aQa,QG]
 have e3:Q*(P*(x/Q))=P*(Q*(x/Q)):=by ac_rfl
 rw[aQa,e3];omega
theorem OV{P Q R B VO VA x y r0:Nat}(hB:B=R*Q)(QG:Q*(x/Q)+x%Q=x)(hv:Q*VO+r0=VA+P*(x%Q)):Q*(VO+P*(x/Q+y%Q*R))+r0=VA+P*x+P*B*(y%Q):=by
 have h1:=EL QG hv;have e1:Q*(VO+P*(x/Q+y%Q*R))=Q*(VO+P*(x/Q))+P*B*(y%Q):=by
  rw[aQa P,<-Nat.add_assoc,aQa Q (VO+P*(x/Q)),hB];congr 1
  ac_rfl
 omega
theorem Jj{v:AV}{a:List Nat}(ha:fG v a)(la:a.length<10000000001){n:Nat}(hn:n<32):
  ∃r,aO E 180 [v,.int .i64 (n:Int)]=some r/\∃l,fG r l/\Norm l/\val l=val a/2^n:=by
 refine tS anf ?_;intro ts hl g0 g1;have T:=jf C.toOver;unfold alX;by_cases dM:a.length=0
 ·have I4:a=[]:=List.eq_nil_of_length_eq_zero dM;subst I4;have hv:v=.aH∨v=.ef∨v=.aJ [] 0:=by
   rcases ha.2 with rfl|⟨_,rfl|rfl⟩
   ·exact .inr (.inr rfl)
   ·exact .inl rfl
   ·exact .inr (.inl rfl)
  obtain⟨r,H',hc,hrr⟩:=Kw (E:=E) hv;have hmz:fG (.aJ (cP []) 0) []:=⟨by simp,.inl rfl⟩;have hmn:fG .aH []:=⟨by simp,.inr ⟨rfl,.inl rfl⟩⟩;rcases hrr with⟨rfl,rfl⟩|⟨rfl,rfl⟩
  ·obtain⟨q,hq,Ww⟩:=kJ C hmn (by simp);have hq':=ed hq;simp only[↓aQ,kL,↓aT,aK,aa,ae,jU,Ls,Tryz.f180,hl,g0,hc];refine fh (fun k_ ts H=>k_=0/\ts.length=45/\gt ts 5=.aH/\gt ts 10=.int .i64 0/\gt ts 11=.int .i64 0/\H=[]) (0) ?_ ?_
   rotate_left
   ·refine⟨(by first|omega|rfl|(simp;done)),(by simp only[cK,hl]),?_⟩;simp only[cM,hl,aa,ae];refine⟨?_,?_,?_,?_⟩
    iterate 4 first|trivial|rfl|(congr 1;omega)|(simp;done)|(simp;omega)
   clear hl g0 g1 ts;rintro k_ ts H ⟨rfl,hl,g5,g10,g11,rfl⟩;refine VS ?_;have hd:decide ((0:Int)<0)=false:=rfl;simp only[↓aQ,kL,↓aT,aK,↓reduceIte,aa,ae,ao,hl,g5,g10,g11,hq',aL Ww];exact⟨_,Ww,kq _,by rw[jY];simp[val]⟩
  ·obtain⟨q,hq,Ww⟩:=kJ C hmz (by simp);have hq':=ed hq;have gf:oG false [.cells .live []] [.aI 0 0 0 1 0]=some ([.aJ (cP []) 0],[0]):=by rw[kV];exact wu (H:=[.cells .live (cP [])]) (b:=0) (l:=[]) (st:=.live) rfl (by decide)
   simp only[↓aQ,kL,↓aT,aK,aa,ae,jU,Ji,Tryz.f180,hl,g0,hc];refine fh (fun k_ ts H=>k_=0/\ts.length=45/\gt ts 5=.aI 0 0 0 1 0/\gt ts 10=.int .i64 0/\gt ts 11=.int .i64 0/\H=[.cells .live []]) (0) ?_ ?_
   rotate_left
   ·refine⟨(by first|omega|rfl|(simp;done)),(by simp only[cK,hl]),?_⟩;simp only[cM,hl,aa,ae];refine⟨?_,?_,?_,?_⟩
    iterate 4 first|trivial|rfl|(congr 1;omega)|(simp;done)|(simp;omega)
   clear hl g0 g1 ts;rintro k_ ts H ⟨rfl,hl,g5,g10,g11,rfl⟩;refine VS ?_;have hd:decide ((0:Int)<0)=false:=rfl;simp only[↓aQ,kL,↓aT,aK,↓reduceIte,aa,ae,ao,hl,g5,g10,g11,gf,hq',aL Ww];exact⟨_,Ww,kq _,by rw[jY];simp[val]⟩
 ·have K4:0<a.length:=by omega
  obtain rfl:v=.aJ (cP a) a.length:=by
   rcases ha.2 with rfl|⟨rfl,_⟩
   ·rfl
   ·simp at K4
  simp only[↓aQ,kL,↓aT,aK,aa,ae,jU,Ji,Tryz.f180,hl,g0,NN K4 la];refine fh (fun k_ ts H=>∃i out,k_=a.length-i/\ts.length=45/\gt ts 0=.aJ (cP a) a.length/\gt ts 1=.int .i64 (n:Int)/\gt ts 5=.aI 1 0 a.length 1 a.length/\gt ts 10=.int .i64 (a.length:Nat)/\gt ts 11=.int .i64 (i:Nat)/\H=[.cells .dead [],.cells .live (cP out)]/\(i<=a.length)/\(out.length=a.length)/\(∀d∈out,d<4294967296)/\(∀j,i<=j->out.getD j 0=a.getD j 0)/\(2^n*val (out.take i)+a.getD 0 0%2^n=val (a.take i)+4294967296^i*(a.getD i 0%2^n))) (a.length) ?_ ?_
  rotate_left
  ·refine⟨0,a,(by first|omega|rfl|(simp;done)),(by simp only[cK,hl]),?_⟩;simp only[cM,hl,aa,ae,g0,g1]
   iterate 6 refine⟨by first|trivial|rfl|(congr 1;omega)|(simp;done)|(simp;omega),?_⟩
   refine⟨?_,?_,?_,?_,?_⟩
   ·omega
   ·trivial
   ·exact ha.1
   ·intro j _;trivial
   ·simp[val]
  clear hl g0 g1 ts;rintro k_ ts H ⟨i,out,rfl,hl,g0,g1,g5,g10,g11,rfl,hi,ho,hd,hs,hv⟩;refine VS ?_;have hp2:=aRW n;by_cases uM:i<a.length
  ·have sD:decide ((i:Int)<(a.length:Int))=true:=cF (by omega);have c1:((i:Int)<((a.length:Nat):Int))=True:=eq_true (by omega);have jN:i<out.length:=by omega
   have ldo:=gW jN;rw[hs i (aLr _)]at ldo;have tk:=gN ha.1 (i:=i);have QG:=Nat.div_add_mod (a.getD i 0) (2^n);have hts:=cN uM;generalize hx:a.getD i 0=x at ldo tk QG hts hv;have w2:aV .i64 ((i:Int)+1)=((i+1:Nat):Int):=by rw[wrap_i64 (by omega) (by omega)];simp
   have sh1:∀{cc:Bool} {t:Nat},dy E cc .shr t (.int .u32 (x:Int)) (.int .i64 (n:Int))=some (.int .u32 ((x/2^n:Nat):Int)):=by
    intro cc t;exact Qh (show n<=IntKind.u32.bits by show n<=32;omega)
   have ye:=fun z H=>tt (H:=H) (z:=z) jN
   have hxd:x/2^n<4294967296:=aR2 (Nat.div_le_self _ _) tk;by_cases awY:i+1<a.length
   ·have B7:decide (((i+1:Nat):Int)<(a.length:Int))=true:=cF (by omega);have c2:(((i+1:Nat):Int)<((a.length:Nat):Int))=True:=eq_true (by omega);have Bi:=gW awY;have abo:=gN ha.1 (i:=i+1);have aqa:=gW (out:=out.set i (x/2^n)) (j:=i) (by simpa using jN);rw[show(out.set i (x/2^n)).getD i 0=x/2^n by rw[aP8,aOc jN];rfl]at aqa;have e0:((out.set i (x/2^n)).set i (x/2^n+(a.getD (i+1) 0%2^n)*2^(32-n)))=out.set i (x/2^n+(a.getD (i+1) 0%2^n)*2^(32-n)):=by simp
    generalize hy:a.getD (i+1) 0=y at Bi abo e0;obtain⟨hor,gO⟩:=SC (x:=x) (y:=y) tk hn;have wy:aV .u64 (y:Int)=y:=wrap_u64 (by omega);have sh2:∀{cc:Bool} {t:Nat},dy E cc .shr t (.int .u64 ((y*4294967296:Nat):Int)) (.int .i64 (n:Int))=some (.int .u64 ((y*4294967296/2^n:Nat):Int)):=by
     intro cc t;exact Qh (show n<=IntKind.u64.bits by show n<=64;omega)
    have axj:∀{cc:Bool} {t:Nat},dy E cc .or t (.int .u32 ((x/2^n:Nat):Int)) (.int .u32 ((y*4294967296/2^n%4294967296:Nat):Int))=some (.int .u32 ((x/2^n+(y%2^n)*2^(32-n):Nat):Int)):=by intro cc t;rw[Qf hxd (aRY _ (by decide)),hor]
    have WC:=fun z H=>tt (H:=H) (z:=z) (out:=out.set i (x/2^n)) (j:=i) (by simpa using jN)
    simp only[↓aQ,kL,DJ,aK,↓reduceIte,aa,ah,ae,↓D0 jT gU,↓D0 gU jT,yS jT gU,yS gU jT,hl,g0,g1,g5,g10,g11,c1,c2,w2,wy,ldo,aqa,Bi,sh1,sh2,axj,ye,WC,vU (show y<4294967296 by omega),wrap_u32,AV.cells];refine dO ?_;refine⟨_,?_,i+1,(out.set i (x/2^n)).set i (x/2^n+(y%2^n)*2^(32-n)),rfl,(by simp only[cK,hl]),?_⟩
    ·first|omega|(simp;omega)
    simp only[cM,hl,aa,ae,g0,g1,g5,g10]
    iterate 6 refine⟨by first|trivial|rfl|(congr 1;omega)|(simp;done)|(simp;omega),?_⟩
    refine⟨?_,?_,?_,?_,?_⟩
    ·omega
    ·simpa using ho
    ·rw[e0];exact dK hd gO
    ·intro j hj;rw[e0,aP8,aN9 (by omega)];exact hs j (by omega)
    ·rw[e0,fP jN,hts,hy,aQi];exact OV (show(4294967296:Nat)=2^(32-n)*2^n by rw[<-aR3,show 32-n+n=32 by omega]) QG hv
   ·have B7:decide (((i+1:Nat):Int)<(a.length:Int))=false:=cH (by omega);simp only[↓aQ,kL,DJ,aK,↓reduceIte,aa,ah,ae,hl,g0,g1,g5,g10,g11,B7,c1,w2,ldo,sh1,ye,AV.cells];refine dO ?_;refine⟨_,?_,i+1,out.set i (x/2^n),rfl,(by simp only[cK,hl]),?_⟩
    ·first|omega|(simp;omega)
    simp only[cM,hl,aa,ae,g0,g1,g5,g10]
    iterate 6 refine⟨by first|trivial|rfl|(congr 1;omega)|(simp;done)|(simp;omega),?_⟩
    refine⟨?_,?_,?_,?_,?_⟩
    ·omega
    ·simpa using ho
    ·exact dK hd hxd
    ·intro j hj;rw[aP8,aN9 (by omega)];exact hs j (by omega)
    ·have hz:a.getD (i+1) 0=0:=by rw[aP8,aLB (by omega)];rfl
     rw[fP jN,hts,hz,Nat.zero_mod,aRs,aR0];exact EL QG hv
  ·have sD:decide ((i:Int)<(a.length:Int))=false:=cH (by omega);obtain rfl:i=a.length:=by omega
   have AB:fG (.aJ (cP out) a.length) out:=⟨hd,.inl (by rw[ho])⟩;obtain⟨q,hq,Ww⟩:=kJ C AB (by omega);have hq':=ed hq;have gf:oG false [.cells .dead [],.cells .live (cP out)] [.aI 1 0 a.length 1 a.length]=some ([.aJ (cP out) a.length],[1]):=by
    rw[kV]
    have:=wu (H:=[.cells .dead [],.cells .live (cP out)]) (b:=1) (l:=out) (st:=.live) rfl (by decide)
    rwa[ho]at this
   simp only[↓aQ,kL,↓aT,aK,↓reduceIte,aa,ae,hl,g5,g10,g11,sD,gf,hq',aL Ww];refine⟨_,Ww,kq _,?_⟩;rw[jY];rw[aP6 (aLr _),aP6 (by omega)]at hv;have hz:a.getD a.length 0=0:=by rw[aP8,aLB (by omega)];rfl
   rw[hz]at hv;simp only[Nat.zero_mod,aRs,aR0]at hv;have hr:=aRY (a.getD 0 0) hp2;symm;rw[<-hv,Nat.mul_add_div hp2,Nat.div_eq_of_lt hr,aR0]
end Go.Proofs.YtblnjkjjedanaaaGreatDoor
namespace Dv.bV
theorem oW{p a b:Nat}(h:p*a<p*b):a<b:=aR1 h
structure rM(B P u v ul vl u0 u1 u2 v1 v2:Nat):Prop where
 hu:u=ul+P*(u2+B*(u0*B+u1))
 hv:v=vl+P*(v2+B*v1)
 ulP:ul<P
 vlP:vl<P
 u2B:u2<B
 u1B:u1<B
 v2B:v2<B
 v1p:0<v1
 lt:u<B*v
variable{B P u v ul vl u0 u1 u2 v1 v2:Nat}
theorem rM.Pp(L:rM B P u v ul vl u0 u1 u2 v1 v2):0<P:=by have:=L.ulP;omega
theorem rM.Bp(L:rM B P u v ul vl u0 u1 u2 v1 v2):0<B:=by have:=L.u2B;omega
theorem rM.vp(L:rM B P u v ul vl u0 u1 u2 v1 v2):P*B<=v:=by
 have h1:B*1<=B*v1:=aQn _ L.v1p;have h2:P*B<=P*(v2+B*v1):=aQn _ (by omega)
 have:=L.hv
 omega
theorem rM.v0(L:rM B P u v ul vl u0 u1 u2 v1 v2):0<v:=aNU (Nat.mul_pos L.Pp L.Bp) L.vp
theorem rM.uX(L:rM B P u v ul vl u0 u1 u2 v1 v2):u<P*(u2+B*(u0*B+u1)+1):=by have h1:=L.hu;have h2:=L.ulP;rw[aQa P _ 1,aQq];omega
theorem rM.vW(L:rM B P u v ul vl u0 u1 u2 v1 v2):v<P*(v2+B*v1+1):=by have h1:=L.hv;have h2:=L.vlP;rw[aQa P _ 1,aQq];omega
theorem rM.u0v(L:rM B P u v ul vl u0 u1 u2 v1 v2):u0<=v1:=by
 have h1:u<B*(P*(v2+B*v1+1)):=aNU L.lt (aQn _ (Nat.le_of_lt L.vW));have h2:P*(u2+B*(u0*B+u1))<=u:=by have:=L.hu;omega
 have h3:P*(B*(u0*B))<P*(B*(v2+B*v1+1)):=by
  have:P*(B*(u0*B))<=P*(u2+B*(u0*B+u1)):=aQn _ (by rw[aQa];omega)
  have e:B*(P*(v2+B*v1+1))=P*(B*(v2+B*v1+1)):=by ac_rfl
  omega
 have h4:=oW (oW h3);have h5:v2+B*v1+1<=B*(v1+1):=by have:=L.v2B;rw[aQa];omega
 have h6:B*u0<B*(v1+1):=by rw[aRV B u0];omega
 have:=oW h6
 omega
theorem rM.first(L:rM B P u v ul vl u0 u1 u2 v1 v2):u/v<=(u0*B+u1)/v1:=by
 rw[Nat.le_div_iff_mul_le L.v1p];have h1:u/v*v<=u:=aSg u v;generalize u/v=q at h1;have h2:P*(B*(q*v1))<=q*v:=by
  have e:P*(B*(q*v1))=q*(P*(B*v1)):=by ac_rfl
  rw[e];refine aQn _ ?_
  have:=L.hv
  rw[aQa]at this;omega
 have h3:=L.uX;have h4:P*(B*(q*v1))<P*(B*(u0*B+u1+1)):=by
  refine aR2 h2 (aR2 h1 (aNU h3 (aQn _ ?_)))
  have:=L.u2B
  rw[aQa B _ 1];omega
 have:=oW (oW h4)
 omega
theorem rM.ltB(L:rM B P u v ul vl u0 u1 u2 v1 v2):u/v<B:=Nat.div_lt_of_lt_mul (by rw[aRV];exact L.lt)
theorem rM.step(L:rM B P u v ul vl u0 u1 u2 v1 v2){q rest:Nat}(hq:q*v1+rest=u0*B+u1)(hle:u/v<=q)(hc:q*v2>rest*B+u2):u/v<=q-1:=by
 by_cases he:u/v=q
 ·exfalso;have h1:u/v*v<=u:=aSg u v;rw[he]at h1;have h2:P*(q*(v2+B*v1))<P*(u2+B*(u0*B+u1)+1):=by
   refine aR2 ?_ L.uX;refine Nat.le_trans ?_ h1;have e:P*(q*(v2+B*v1))=q*(P*(v2+B*v1)):=by ac_rfl
   rw[e];exact aQn _ (by have:=L.hv;omega)
  have h3:=oW h2;rw[<-hq]at h3;have e1:q*(v2+B*v1)=q*v2+B*(q*v1):=by rw[aQa];congr 1;ac_rfl
  have e2:B*(q*v1+rest)=B*(q*v1)+rest*B:=by rw[aQa];congr 1;ac_rfl
  omega
 ·omega
theorem rM.last(L:rM B P u v ul vl u0 u1 u2 v1 v2){q rest:Nat}(hq:q*v1+rest=u0*B+u1)(hc:rest≥B∨(q<B/\q*v2<=rest*B+u2)):q<B/\q*v<=u+v:=by
 have hqB:q<B:=by
  rcases hc with h|h
  ·have h1:=L.u0v;have h2:u0*B<=v1*B:=aL8 _ h1;have h3:v1*q<v1*B:=by have:=L.u1B;rw[aRV v1 q];omega
   exact oW h3
  ·exact h.1
 refine⟨hqB,?_⟩;have h1:q*v<=q*(P*(v2+B*v1+1)):=aQn _ (Nat.le_of_lt L.vW);have e1:q*(P*(v2+B*v1+1))=P*(q*v2+B*(q*v1)+q):=by
  rw[show q*(P*(v2+B*v1+1))=P*(q*(v2+B*v1+1))by ac_rfl,aQa q,aQa q,aQq];congr 3;ac_rfl
 have hu:=L.hu;rcases hc with h|h
 ·have h2:q*v2+B*(q*v1)+q<=u2+B*(u0*B+u1):=by
   have h3:q*v2<=q*(B-1):=aQn _ (by have:=L.v2B;omega);have h4:q*(B-1)+q=q*B:=by rw[<-Nat.mul_succ];congr 1;omega
   have h5:B*(q*v1)+B*rest=B*(u0*B+u1):=by rw[<-aQa,hq]
   have h6:q*B<=B*rest:=by rw[aRV];exact aQn _ (by omega)
   omega
  have h3:=aQn P h2;omega
 ·have h5:B*(q*v1)+rest*B=B*(u0*B+u1):=by rw[<-hq,aQa,aRV rest B]
  have h2:q*v2+B*(q*v1)+q<=u2+B*(u0*B+u1)+B:=by omega
  have h3:=aQn P h2;rw[aQa P _ B]at h3;have h4:=L.vp;omega
theorem RF{P X Y:Int}{k:Int}(Zn:0<=X)(hX:X<P)(hY0:0<=Y)(hY:Y<P)(h:X+P*k=Y):k=0:=by
 have hP:0<P:=by omega
 rcases Int.lt_trichotomy k 0 with hk|hk|hk
 ·have:P*k<=P*(-1):=aRZ (by omega) (by omega)
  omega
 ·exact hk
 ·have:P*1<=P*k:=aRZ (by omega) (by omega)
  omega
theorem ZK{X W v u q P c:Nat}{t:Int}(hX:X<P)(hv:v<P)(hW:W<P)(ht:t<0)(hc:c<=1)(hq:0<q)(CM:(W:Int)+(q:Int)*(v:Int)+(P:Int)*t=(u:Int))(hvx:X+P*c=W+v)(hle:q*v<=u+v):
  t= -1/\c=1/\X+(q-1)*v=u/\X<v:=by
 have h1:(X:Int)+(P:Int)*(c:Int)=(W:Int)+(v:Int):=by rw[<-aRp];omega
 have h2:(q:Int)*(v:Int)=((q*v:Nat):Int):=(aRp _ _).symm;have hY:(X:Int)+(P:Int)*(t+c)=(u:Int)+(v:Int)-(q:Int)*(v:Int):=by rw[Int.mul_add];omega
 have h3:(P:Int)*t<=(P:Int)*(-1):=aRZ (by omega) (by omega);have htc:t+c=0:=RF (by omega) (Int.ofNat_lt.2 hX) (by omega) (by omega) hY;have M6:t= -1:=by omega
 have G0:c=1:=by omega
 subst M6;subst G0;have h4:(q-1)*v+v=q*v:=by rw[<-Nat.succ_mul];congr 1;omega
 have h5:(P:Int)*(-1+((1:Nat):Int))=0:=by rw[show(-1+((1:Nat):Int))=0 by decide,Int.mul_zero]
 rw[h5]at hY;exact⟨rfl,rfl,by omega,by omega⟩
theorem Yh{P X W V c w d:Nat}(hv:X+P*c=W+V):X+P*((c+(w+d))%4294967296)+P*4294967296*((c+(w+d))/4294967296)=W+P*w+(V+P*d):=by
 have e2:P*((c+(w+d))%4294967296)+P*4294967296*((c+(w+d))/4294967296)=P*c+(P*w+P*d):=by rw[aQl,<-aQa,aR9,aQa,aQa]
 omega
theorem Mw{P X U V c b q d w r b':Nat}(hv:X+q*V=U+P*(c+b))(h:w+4294967296*b'=r+b+(c+q*d)%4294967296):X+P*r+q*(V+P*d)=U+P*w+P*4294967296*((c+q*d)/4294967296+b'):=by
 have e1:q*(V+P*d)=q*V+P*(q*d):=by rw[aQa];congr 1;ac_rfl
 have e2:c+q*d=(c+q*d)%4294967296+4294967296*((c+q*d)/4294967296):=(aR9 _ _).symm;generalize hm:(c+q*d)%4294967296=m at*;generalize hk:(c+q*d)/4294967296=k at*;have e3:P*(c+q*d)=P*(m+4294967296*k):=by rw[<-e2]
 have e4:P*(w+4294967296*b')=P*(r+b+m):=by rw[h]
 have e5:P*4294967296*(k+b')=P*(4294967296*k)+P*(4294967296*b'):=by rw[aQl,<-aQa,<-aQa]
 rw[aQa]at e3 e4 hv;rw[aQa]at e3 e4;rw[aQa]at e4;omega
theorem ada{P X U v c b q u0 t:Nat}(hv:X+q*v=U+P*(c+b))(ht:u0=t+b+c):X+P*t+q*v=U+P*u0:=by subst ht;rw[aQa,aQa];rw[aQa]at hv;omega
theorem ajQ{P X U v k q:Nat}(hX:X<P)(hk:0<k)(hv:X+q*v=U+P*k):0<q:=by
 refine aSh fun e=>?_
 subst e
 have:P*1<=P*k:=aQn _ hk
 omega
theorem Yn{P X U v c b q u0:Nat}{t:Int}(hv:X+q*v=U+P*(c+b))(ht:t=(u0:Int)-b-c):(X:Int)+(q:Int)*(v:Int)+(P:Int)*t=((U+P*u0:Nat):Int):=by
 subst ht;have h1:((X+q*v:Nat):Int)=((U+P*(c+b):Nat):Int):=by rw[hv]
 simp only[aRq,aRp]at h1⊢;rw[Int.mul_sub,Int.mul_sub];rw[Int.mul_add]at h1;omega
end Dv.bV
namespace Go.Proofs.YtblnjkjjedanaaaGreatDoor
open Go Dv Dv.bV
variable{E:Env}[C:Ctx E]
def pY(U:List Nat)(off k:Nat):Nat:=val ((U.drop off).take k)
theorem mH{U:List Nat}{off k:Nat}(h:off+k<U.length):pY U off (k+1)=pY U off k+4294967296^k*U.getD (off+k) 0:=by unfold pY;rw[cN (by rw[aR4];omega)];congr 2;rw[aP8,aK8,aP8]
theorem EU{U:List Nat}{off k j d:Nat}(h:off+k<=j):pY (U.set j d) off k=pY U off k:=by unfold pY;rw[List.drop_set,if_neg (by omega),aSf (by omega)]
theorem lG{U:List Nat}{off k d:Nat}(h:off+k<U.length):pY (U.set (off+k) d) off (k+1)=pY U off k+4294967296^k*d:=by rw[mH (by simpa using h),EU (aLr _),aP8,aOc h];rfl
theorem Jl{U:List Nat}(h:∀d∈U,d<4294967296){off k:Nat}:pY U off k<4294967296^k:=by
 unfold pY;refine aNU (o8 fun d hd=>h d (List.mem_of_mem_drop (aQj hd))) ?_;exact aRX (by omega) (by rw[aMp];omega)
theorem tu{l:List Nat}:val (l.take l.length)=val l:=by rw[aR7]
theorem rH{z:Int}:aV .u32 z=z%4294967296:=by
 show IntKind.u32.wrap _=_
 rw[IntKind.wrap_u32]
theorem rE{U:List Nat}{j k d:Nat}(h:j≠k):(U.set j d).getD k 0=U.getD k 0:=by rw[aP8,aN9 h,aP8]
theorem XY{U:List Nat}{j d:Nat}(h:j<U.length):(U.set j d).getD j 0=d:=by rw[aP8,aOc h];rfl
theorem abK{U Vl:List Nat}{off n:Nat}(hn:Vl.length=n+2)(hU:off+(n+2)<U.length)(Od:∀d∈U,d<4294967296)(hVd:∀d∈Vl,d<4294967296)(hv1:0<Vl.getD (n+1) 0)(gO:pY U off (n+3)<4294967296*val Vl):
  rM 4294967296 (4294967296^n) (pY U off (n+3)) (val Vl) (pY U off n) (val (Vl.take n)) (U.getD (off+(n+2)) 0) (U.getD (off+(n+1)) 0) (U.getD (off+n) 0) (Vl.getD (n+1) 0) (Vl.getD n 0):=by
 refine⟨?_,?_,Jl Od,?_,gN Od,gN Od,gN hVd,hv1,gO⟩
 ·rw[mH (by omega),mH (by omega),mH (by omega)];simp only[aQi];generalize 4294967296^n=P;rw[aQa,aQa,aQa];have e1:P*(4294967296*(U.getD (off+(n+2)) 0*4294967296))=P*4294967296*4294967296*U.getD (off+(n+2)) 0:=by ac_rfl
  have e2:P*(4294967296*U.getD (off+(n+1)) 0)=P*4294967296*U.getD (off+(n+1)) 0:=by ac_rfl
  omega
 ·have h1:=tu (l:=Vl);rw[hn,cN (by omega),cN (by omega)]at h1;simp only[aQi]at h1;rw[<-h1];generalize 4294967296^n=P;rw[aQa];have e2:P*(4294967296*Vl.getD (n+1) 0)=P*4294967296*Vl.getD (n+1) 0:=by ac_rfl
  omega
 ·have:=o8 (l:=Vl.take n) fun d hd=>hVd d (aQj hd)
  rwa[aMp,aSa (by omega)]at this
def qH:Nat->Code->Code
 |0,c=>c
 |n+1,.seq _ b=>qH n b
 |_+1,c=>c
def sb:Code->Code
 |.seq a _=>a
 |c=>c
noncomputable def Vg:Code:=qH 5 vY
noncomputable def Ve:Code:=qH 10 vY
theorem aaa:vY=.seq (sb vY) (.seq (sb (qH 1 vY)) (.seq (sb (qH 2 vY)) (.seq (sb (qH 3 vY)) (.seq (sb (qH 4 vY)) Vg)))):=by kernel_rfl
theorem Vh:Vg=.seq (sb (qH 5 vY)) (.seq (sb (qH 6 vY)) (.seq (sb (qH 7 vY)) (.seq (sb (qH 8 vY)) (.seq (sb (qH 9 vY)) Ve)))):=by kernel_rfl
def ZC(U Vl:List Nat)(off n:Nat)(H1:Hp)(r:AV)(H':Hp):Prop:=∃q U',r=.int .u32 (q:Nat)/\H'=.cells .live (cP U')::H1/\q<4294967296/\U'.length=U.length/\(∀d∈U',d<4294967296)/\(∀j,(j<off∨off+(n+3)<=j)->U'.getD j 0=U.getD j 0)/\pY U' off (n+3)+q*val Vl=pY U off (n+3)/\pY U' off (n+3)<val Vl
theorem Vf{vv:AV}{U Vl W:List Nat}{off n kc q:Nat}{H1:Hp}{t:Int}(hV:fG vv Vl)(hn:Vl.length=n+2)(J3:n<10000000000)(hU:off+(n+3)<=U.length)(hUl:U.length<20000000000)
  (hW:W.length=U.length) (hWd:∀d∈W,d<4294967296) (hWo:∀j,(j<off∨off+(n+3)<=j)->W.getD j 0=U.getD j 0) (ht:t<0) (ht0: -4294967296<=t) (hWn:(W.getD (off+(n+2)) 0:Int)=t%4294967296) (hq0:0<q) (hq:q<4294967296)
  (CM:(pY W off (n+2):Int)+(q:Int)*(val Vl:Int)+((4294967296^(n+2):Nat):Int)*t=(pY U off (n+3):Int)) (hle:q*val Vl<=pY U off (n+3)+val Vl)
  {ts:List AV} (hl:ts.length=173) (g0:gt ts 0=.aI 0 off (n+3) 1 kc) (g1:gt ts 1=vv) (g5:gt ts 5=.int .i64 ((n+2:Nat):Int)) (g7:gt ts 7=.int .u64 (q:Nat)):
  V E Ve ts (.cells .live (cP W)::H1) (vE E [.tmp 4] (ZC U Vl off n H1)):=by
 have T:=jf C.toOver;unfold Ve;refine VS ?_
 dsimp only[qH,sb,vY,Tryz.f179]
 simp only[↓aQ,kL,aK,aa,ae,jU,hl,g1,gV hV];refine fh (fun k_ ts H=>∃i X c,k_=(n+2)-i/\ts.length=173/\gt ts 0=.aI 0 off (n+3) 1 kc/\gt ts 1=vv/\gt ts 5=.int .i64 ((n+2:Nat):Int)/\gt ts 7=.int .u64 (q:Nat)/\gt ts 9=.int .u64 (c:Nat)/\gt ts 137=vv/\gt ts 138=.int .i64 ((n+2:Nat):Int)/\gt ts 139=.int .i64 (i:Nat)/\H=.cells .live (cP X)::H1/\(i<=n+2)/\(X.length=U.length)/\(∀d∈X,d<4294967296)/\(∀j,(j<off∨off+i<=j)->X.getD j 0=W.getD j 0)/\(c<=1)/\(pY X off i+4294967296^i*c=pY W off i+val (Vl.take i))) (n+2) ?_ ?_
 rotate_left
 ·refine⟨0,W,0,(by first|omega|rfl|(simp;done)),(by simp only[cK,hl]),?_⟩;simp only[cM,hl,aa,ae,g0,g1,g5,g7,hn]
  iterate 9 refine⟨by first|trivial|rfl|(congr 1;omega)|(simp;done)|(simp;omega),?_⟩
  refine⟨?_,?_,?_,?_,?_,?_⟩
  ·omega
  ·exact hW
  ·exact hWd
  ·intro j _;first|trivial|rfl
  ·omega
  ·simp[pY,val]
 clear hl g0 g1 g5 g7 ts;rintro k_ ts H ⟨i,X,c,rfl,hl,g0,g1,g5,g7,g9,anr,ahl,ans,rfl,hi,hX,hXd,V5,hc,hv⟩;refine VS ?_;by_cases hin:i<n+2
 ·have sD:decide ((i:Int)<((n+2:Nat):Int))=true:=cF (by omega);have ixv:=kN T hV (k:=.i64) (z:=(i:Int)) (by omega) (by omega);rw[aQe]at ixv;have ldv:=gW (out:=Vl) (j:=i) (by omega);have ahM:=gN hV.1 (i:=i);have hvt:=cN (l:=Vl) (i:=i) (by omega);generalize hd:Vl.getD i 0=d at ldv ahM hvt;have c1:((i:Int)<((n+3:Nat):Int))=True:=eq_true (by omega);have jN:off+i<X.length:=by omega
  have Lq:=gW jN;rw[V5 _ (.inr (aLr _))]at Lq;have WH:=gN hWd (i:=off+i);have Zr:=mH (U:=W) (off:=off) (k:=i) (by omega);generalize hw:W.getD (off+i) 0=w at Lq WH Zr;have w1:aV .u64 (d:Int)=d:=wrap_u64 (by omega);have w2:aV .u64 (w:Int)=w:=wrap_u64 (by omega);have w3:aV .u64 ((w:Int)+(d:Int))=((w+d:Nat):Int):=by rw[<-aRq];exact wrap_u64 (by omega)
  have w4:aV .u64 ((c:Int)+((w+d:Nat):Int))=((c+(w+d):Nat):Int):=by rw[<-aRq];exact wrap_u64 (by omega)
  have w5:aV .i64 ((i:Int)+1)=((i+1:Nat):Int):=by rw[wrap_i64 (by omega) (by omega)];simp
  have fK:=fun z H=>tt (H:=H) (z:=z) jN
  simp only[↓aQ,kL,aK,↓reduceIte,aa,ae,lH,cR,↓gL jT gU,↓gL gU jT,hl,g0,g9,anr,ahl,ans,sD,ixv,ldv,Lq,c1,w1,w2,w3,w4,w5,fK,fw,fU,kY,wrap_u32,AV.cells];refine dO ?_;refine⟨_,?_,i+1,X.set (off+i) ((c+(w+d))%4294967296),(c+(w+d))/4294967296,rfl,(by simp only[cK,hl]),?_⟩
  ·first|omega|(simp;omega)
  simp only[cM,hl,aa,ae,g0,g1,g5,g7,anr,ahl]
  iterate 9 refine⟨by first|trivial|rfl|(congr 1;omega)|(simp;done)|(simp;omega),?_⟩
  refine⟨?_,?_,?_,?_,?_,?_⟩
  ·omega
  ·simpa using hX
  ·exact dK hXd (aRY _ (by decide))
  ·intro j hj;rw[rE (by omega)];exact V5 j (by omega)
  ·omega
  ·rw[lG jN,Zr,hvt,aQi];exact Yh hv
 ·have sD:decide ((i:Int)<((n+2:Nat):Int))=false:=cH (by omega);obtain rfl:i=n+2:=by omega
  have c1:(((n+2:Nat):Int)<((n+3:Nat):Int))=True:=eq_true (by omega);have jN:off+(n+2)<X.length:=by omega
  have Lq:=gW jN;rw[V5 _ (.inr (aLr _))]at Lq;have hvV:val (Vl.take (n+2))=val Vl:=by rw[<-hn,aR7]
  rw[hvV]at hv;have hVB:val Vl<4294967296^(n+2):=by have:=o8 hV.1;rwa[hn]at this
  have awm:=Jl hXd (off:=off) (k:=n+2);have awi:=Jl hWd (off:=off) (k:=n+2);obtain⟨rfl,rfl,aoi,aoj⟩:=ZK awm hVB awi ht hc hq0 CM hv hle;have awj:W.getD (off+(n+2)) 0=4294967295:=by
   have:(-1:Int)%4294967296=4294967295:=by decide
   omega
  rw[awj]at Lq;have w1:aV .u32 1=1:=by rw[rH];decide
  have w2:aV .u32 (4294967295+1)=0:=by rw[rH];decide
  have w3:aV .u64 ((q:Int)-1)=((q-1:Nat):Int):=by rw[show(q:Int)-1=((q-1:Nat):Int)by omega];exact wrap_u64 (by omega)
  have fK:∀H,mY 1 [.int .u32 0] (.cells .live (cP X)::H) 0 (off+(n+2))=some (.cells .live (cP (X.set (off+(n+2)) 0))):=fun H=>tt (z:=0) jN
  simp only[↓aQ,kL,aK,↓reduceIte,aa,ae,cR,↓gL jT gU,hl,g0,g5,g7,g9,ahl,ans,sD,c1,Lq,w1,w2,w3,fK,fw,fU,wrap_u32,AV.cells];refine⟨q-1,X.set (off+(n+2)) 0,?_,rfl,by omega,by simpa using hX,dK hXd (by decide),?_,?_,?_⟩
  ·rw[aRk (by omega)]
  ·intro j hj;rw[rE (by omega),V5 j (by omega)];exact hWo j hj
  ·rw[lG jN,aRs,aR0];exact aoi
  ·rw[lG jN,aRs,aR0];exact aoj
theorem rG{n:Nat}(h:n<=9223372036854775807):aV .i64 (n:Int)=n:=wrap_i64 (by omega) (by omega)
theorem sub_neg{w b m:Nat}(hw:w<4294967296)(hb:b<=1)(hm:m<4294967296)(h:(w:Int)-(b:Int)-(m:Int)<0):aV .u32 ((w:Int)-(b:Int)-(m:Int))=((w+4294967296-b-m:Nat):Int)/\w+4294967296-b-m<4294967296/\w+4294967296*1=w+4294967296-b-m+b+m:=by
 have e:((w+4294967296-b-m:Nat):Int)=(w:Int)-(b:Int)-(m:Int)+4294967296:=by omega
 refine⟨?_,by omega,by omega⟩;rw[rH,e,<-Int.add_emod_right,aSi (by omega) (by omega)]
theorem My{w b m:Nat}(hw:w<4294967296)(h:¬(w:Int)-(b:Int)-(m:Int)<0):aV .u32 ((w:Int)-(b:Int)-(m:Int))=((w-b-m:Nat):Int)/\w-b-m<4294967296/\w+4294967296*0=w-b-m+b+m:=by
 have e:((w-b-m:Nat):Int)=(w:Int)-(b:Int)-(m:Int):=by omega
 refine⟨?_,by omega,by omega⟩;rw[rH,e,aSi (by omega) (by omega)]
theorem Z9{vv:AV}{U Vl:List Nat}{off n kc q:Nat}{H1:Hp}(hV:fG vv Vl)(hn:Vl.length=n+2)(J3:n<10000000000)(hU:off+(n+3)<=U.length)(hUl:U.length<20000000000)
  (Od:∀d∈U,d<4294967296) (hq:q<4294967296) (hup:pY U off (n+3)<(q+1)*val Vl) (hle:q*val Vl<=pY U off (n+3)+val Vl)
  {ts:List AV} (hl:ts.length=173) (g0:gt ts 0=.aI 0 off (n+3) 1 kc) (g1:gt ts 1=vv) (g5:gt ts 5=.int .i64 ((n+2:Nat):Int)) (g7:gt ts 7=.int .u64 (q:Nat)):
  V E Vg ts (.cells .live (cP U)::H1) (vE E [.tmp 4] (ZC U Vl off n H1)):=by
 have T:=jf C.toOver;rw[Vh];refine VS ?_
 dsimp only[qH,sb,vY,Tryz.f179]
 simp only[↓aQ,kL,aK,aa,ae,jU,hl,g1,gV hV];refine fh (fun k_ ts H=>∃i X c b,k_=(n+2)-i/\ts.length=173/\gt ts 0=.aI 0 off (n+3) 1 kc/\gt ts 1=vv/\gt ts 5=.int .i64 ((n+2:Nat):Int)/\gt ts 7=.int .u64 (q:Nat)/\gt ts 9=.int .u64 (c:Nat)/\gt ts 10=.int .i64 (b:Nat)/\gt ts 84=vv/\gt ts 85=.int .i64 ((n+2:Nat):Int)/\gt ts 86=.int .i64 (i:Nat)/\H=.cells .live (cP X)::H1/\(i<=n+2)/\(X.length=U.length)/\(∀d∈X,d<4294967296)/\(∀j,(j<off∨off+i<=j)->X.getD j 0=U.getD j 0)/\(c<4294967296)/\(b<=1)/\(pY X off i+q*val (Vl.take i)=pY U off i+4294967296^i*(c+b))) (n+2) ?_ ?_
 rotate_left
 ·refine⟨0,U,0,0,(by first|omega|rfl|(simp;done)),(by simp only[cK,hl]),?_⟩;simp only[cM,hl,aa,ae,g0,g1,g5,g7,hn]
  iterate 10 refine⟨by first|trivial|rfl|(congr 1;omega)|(simp;done)|(simp;omega),?_⟩
  refine⟨?_,?_,?_,?_,?_,?_,?_⟩
  ·omega
  ·first|trivial|rfl
  ·exact Od
  ·intro j _;first|trivial|rfl
  ·first|trivial|omega
  ·first|trivial|omega
  ·simp[pY,val]
 clear hl g0 g1 g5 g7 ts;rintro k_ ts H ⟨i,X,c,b,rfl,hl,g0,g1,g5,g7,g9,g10,g84,g85,g86,rfl,hi,hX,hXd,V5,hc,hb,hv⟩;refine VS ?_;by_cases hin:i<n+2
 ·have sD:decide ((i:Int)<((n+2:Nat):Int))=true:=cF (by omega);have ixv:=kN T hV (k:=.i64) (z:=(i:Int)) (by omega) (by omega);rw[aQe]at ixv;have ldv:=gW (out:=Vl) (j:=i) (by omega);have ahM:=gN hV.1 (i:=i);have hvt:=cN (l:=Vl) (i:=i) (by omega);generalize hd:Vl.getD i 0=d at ldv ahM hvt;have c1:((i:Int)<((n+3:Nat):Int))=True:=eq_true (by omega);have jN:off+i<X.length:=by omega
  have Lq:=gW jN;rw[V5 _ (.inr (aLr _))]at Lq;have WH:=gN Od (i:=off+i);have Zr:=mH (U:=U) (off:=off) (k:=i) (by omega);generalize hw:U.getD (off+i) 0=w at Lq WH Zr;have hqd:q*d<=4294967295*4294967295:=aSb (by omega) (by omega);have w1:aV .u64 (d:Int)=d:=wrap_u64 (by omega);have w2:aV .u64 ((q:Int)*(d:Int))=((q*d:Nat):Int):=by rw[<-aRp];exact wrap_u64 (by omega)
  obtain⟨s,hs⟩:∃s,s=c+q*d:=⟨_,rfl⟩;obtain⟨m,hm⟩:∃m,m=s%4294967296:=⟨_,rfl⟩;obtain⟨k',xM⟩:∃k',k'=s/4294967296:=⟨_,rfl⟩;have ahY:m<4294967296:=by rw[hm];exact aRY _ (by decide)
  have aow:k'<4294967296:=by rw[xM,hs];omega
  have w3:aV .u64 ((c:Int)+((q*d:Nat):Int))=(s:Int):=by rw[hs,<-aRq];exact wrap_u64 (by omega)
  have w3m:aV .u32 (s:Int)=(m:Int):=by rw[hm];exact wrap_u32
  have abg:∀{cc:Bool} {t:Nat} {kk:IntKind},dy E cc .shr t (.int .u64 (s:Int)) (.int kk 32)=some (.int .u64 (k':Int)):=by intro cc t kk;rw[xM];exact kY
  have w4:aV .i64 (w:Int)=w:=rG (by omega);have w5:aV .i64 (m:Int)=m:=rG (by omega);obtain⟨t1,M6⟩:∃t1:Int,t1=(w:Int)-(b:Int):=⟨_,rfl⟩;obtain⟨t2,J4⟩:∃t2:Int,t2=t1-(m:Int):=⟨_,rfl⟩;have w6:aV .i64 ((w:Int)-(b:Int))=t1:=by rw[M6];exact wrap_i64 (by omega) (by omega)
  have w7:aV .i64 (t1-(m:Int))=t2:=by rw[J4];exact wrap_i64 (by omega) (by omega)
  have w8:aV .i64 ((i:Int)+1)=((i+1:Nat):Int):=by rw[wrap_i64 (by omega) (by omega)];simp
  have fK:=fun z H=>tt (H:=H) (z:=z) jN
  by_cases th:t2<0
  ·have Zp:decide (t2<0)=true:=cF th;obtain⟨r,w9,Ov,G5⟩:∃r:Nat,aV .u32 t2=(r:Int)/\r<4294967296/\w+4294967296*1=r+b+m:=by refine⟨w+4294967296-b-m,?_⟩;rw[J4,M6];exact sub_neg WH hb ahY (by omega)
   simp only[↓aQ,kL,aK,↓reduceIte,aa,ae,lH,cR,↓gL jT gU,↓gL gU jT,↓gL gU Zv,↓gL Zv gU,hl,g0,g7,g9,g10,g84,g85,g86,sD,ixv,ldv,Lq,c1,w1,w2,w3,w3m,abg,w4,w5,w6,w7,w8,w9,Zp,fK,fw,fU,AV.cells];refine dO ?_;refine⟨_,?_,i+1,X.set (off+i) r,k',1,rfl,(by simp only[cK,hl]),?_⟩
   ·first|omega|(simp;omega)
   simp only[cM,hl,aa,ae,g0,g1,g5,g7,g84,g85]
   iterate 10 refine⟨by first|trivial|rfl|(congr 1;omega)|(simp;done)|(simp;omega),?_⟩
   refine⟨?_,?_,?_,?_,?_,?_,?_⟩
   ·omega
   ·simpa using hX
   ·exact dK hXd Ov
   ·intro j hj;rw[rE (by omega)];exact V5 j (by omega)
   ·exact aow
   ·omega
   ·rw[lG jN,Zr,hvt,aQi,xM,hs];rw[hm,hs]at G5;exact Mw hv G5
  ·have Zp:decide (t2<0)=false:=cH th;obtain⟨r,w9,Ov,G5⟩:∃r:Nat,aV .u32 t2=(r:Int)/\r<4294967296/\w+4294967296*0=r+b+m:=by refine⟨w-b-m,?_⟩;rw[J4,M6];exact My WH (by omega)
   simp only[↓aQ,kL,aK,↓reduceIte,aa,ae,lH,cR,↓gL jT gU,↓gL gU jT,↓gL gU Zv,↓gL Zv gU,hl,g0,g7,g9,g10,g84,g85,g86,sD,ixv,ldv,Lq,c1,w1,w2,w3,w3m,abg,w4,w5,w6,w7,w8,w9,Zp,fK,fw,fU,AV.cells];refine dO ?_;refine⟨_,?_,i+1,X.set (off+i) r,k',0,rfl,(by simp only[cK,hl]),?_⟩
   ·first|omega|(simp;omega)
   simp only[cM,hl,aa,ae,g0,g1,g5,g7,g84,g85]
   iterate 10 refine⟨by first|trivial|rfl|(congr 1;omega)|(simp;done)|(simp;omega),?_⟩
   refine⟨?_,?_,?_,?_,?_,?_,?_⟩
   ·omega
   ·simpa using hX
   ·exact dK hXd Ov
   ·intro j hj;rw[rE (by omega)];exact V5 j (by omega)
   ·exact aow
   ·omega
   ·rw[lG jN,Zr,hvt,aQi,xM,hs];rw[hm,hs]at G5;exact Mw hv G5
 ·have sD:decide ((i:Int)<((n+2:Nat):Int))=false:=cH (by omega);obtain rfl:i=n+2:=by omega
  have c1:(((n+2:Nat):Int)<((n+3:Nat):Int))=True:=eq_true (by omega);have jN:off+(n+2)<X.length:=by omega
  have Lq:=gW jN;rw[V5 _ (.inr (aLr _))]at Lq;have hvV:val (Vl.take (n+2))=val Vl:=by rw[<-hn,aR7]
  rw[hvV]at hv;have hu0:=gN Od (i:=off+(n+2));have Zr:=mH (U:=U) (off:=off) (k:=n+2) (by omega);generalize hw:U.getD (off+(n+2)) 0=u0 at Lq hu0 Zr;have w1:aV .i64 (u0:Int)=u0:=rG (by omega);have w2:aV .i64 (c:Int)=c:=rG (by omega);obtain⟨t1,M6⟩:∃t1:Int,t1=(u0:Int)-(b:Int):=⟨_,rfl⟩;obtain⟨t2,J4⟩:∃t2:Int,t2=t1-(c:Int):=⟨_,rfl⟩;have w3:aV .i64 ((u0:Int)-(b:Int))=t1:=by rw[M6];exact wrap_i64 (by omega) (by omega)
  have w4:aV .i64 (t1-(c:Int))=t2:=by rw[J4];exact wrap_i64 (by omega) (by omega)
  have fK:=fun z H=>tt (H:=H) (z:=z) jN
  by_cases th:t2<0
  ·have Zp:decide (t2≥0)=false:=cH (by omega);obtain⟨r,hr,Ov⟩:∃r:Nat,(r:Int)=t2%4294967296/\r<4294967296:=⟨(t2%4294967296).toNat,by omega,by omega⟩;have w5:aV .u32 t2=(r:Int):=by rw[rH,hr]
   have hq0:0<q:=ajQ (Jl hXd) (show 0<c+b by omega) hv;simp only[↓aQ,kL,aK,↓reduceIte,aa,ae,cR,↓gL jT Zv,↓gL gU Zv,↓gL Zv gU,hl,g0,g5,g9,g10,g85,g86,sD,Lq,c1,w1,w2,w3,w4,w5,Zp,fK,fw,fU,AV.cells];refine Vf (kc:=kc) (W:=X.set (off+(n+2)) r) (t:=t2) hV hn J3 hU hUl (by simpa using hX) (dK hXd Ov) ?_ th (by omega) ?_ hq0 hq ?_ hle (by simp only[cK,hl]) ?_ ?_ ?_ ?_
   ·intro j hj;rw[rE (by omega)];exact V5 j (by omega)
   ·rw[XY jN];exact hr
   ·rw[EU (aLr _),Zr];exact Yn hv (by rw[J4,M6])
   all_goals simp only[cM,ae,g0,g1,g5,g7]
  ·have Zp:decide (t2≥0)=true:=cF (by omega);obtain⟨r,w5,Ov,G5⟩:∃r:Nat,aV .u32 t2=(r:Int)/\r<4294967296/\u0+4294967296*0=r+b+c:=by refine⟨u0-b-c,?_⟩;rw[J4,M6];exact My hu0 (by omega)
   have wq:aV .u32 (q:Int)=(q:Int):=by rw[wrap_u32,aRk hq]
   simp only[↓aQ,kL,aK,↓reduceIte,aa,ae,cR,↓gL jT gU,↓gL jT Zv,↓gL gU Zv,↓gL Zv gU,hl,g0,g5,g7,g9,g10,g85,g86,sD,Lq,c1,w1,w2,w3,w4,w5,wq,Zp,fK,fw,fU,AV.cells];have oa:=ada (u0:=u0) (t:=r) hv (by omega);rw[<-Zr,<-lG jN]at oa;refine⟨q,X.set (off+(n+2)) r,rfl,rfl,hq,by simpa using hX,dK hXd Ov,?_,oa,?_⟩
   ·intro j hj;rw[rE (by omega)];exact V5 j (by omega)
   ·have:(q+1)*val Vl=q*val Vl+val Vl:=by rw[aMb,Nat.one_mul]
    show pY _ off (n+2+1)<_
    rw[show n+3=n+2+1 from rfl]at hup hle;omega
theorem Mx{q v:Nat}(h:0<q):(q-1)*v+v=q*v:=by obtain⟨k,rfl⟩:=Nat.exists_eq_succ_of_ne_zero (Nat.ne_of_gt h);rw[Nat.succ_mul];rfl
theorem NU{vv:AV}{U Vl:List Nat}{off n kc:Nat}{H1:Hp}(hV:fG vv Vl)(hn:Vl.length=n+2)(J3:n<10000000000)(hU:off+(n+3)<=U.length)(hUl:U.length<20000000000)
  (Od:∀d∈U,d<4294967296) (hv1:2147483648<=Vl.getD (n+1) 0) (gO:pY U off (n+3)<4294967296*val Vl):
  ∃r H',cL E 179 [.aI 0 off (n+3) 1 kc,vv] (.cells .live (cP U)::H1)=some (r,H')/\ZC U Vl off n H1 r H':=by
 refine gi2 (by rw[C.ud]) (by rw[C.fn];exact ane) (by decide) ?_;intro ts hl g0 g1;have T:=jf C.toOver;have L:=abK hn (by omega) Od hV.1 (by omega) gO;have oa:∀(q:Nat) (ts:List AV),q<4294967296->pY U off (n+3)/val Vl<=q->q*val Vl<=pY U off (n+3)+val Vl->ts.length=173->gt ts 0=.aI 0 off (n+3) 1 kc->gt ts 1=vv->gt ts 5=.int .i64 ((n+2:Nat):Int)->gt ts 7=.int .u64 (q:Nat)->
   V E Vg ts (.cells .live (cP U)::H1) (vE E [.tmp 4] (ZC U Vl off n H1)):=by
  intro q ts hq F5 hle hl g0 g1 g5 g7;refine Z9 (kc:=kc) hV hn J3 hU hUl Od hq ?_ hle hl g0 g1 g5 g7;have h1:=Nat.lt_mul_div_succ (pY U off (n+3)) L.v0;refine aNU h1 ?_;rw[aRV];exact aL8 _ (by omega)
 rw[aaa];generalize Vg=D5 at oa
 dsimp only[qH,sb,vY,Tryz.f179]
 have abu:=kN T hV (k:=.i64) (z:=((n+1:Nat):Int)) (by omega) (by omega);have air:=kN T hV (k:=.i64) (z:=((n:Nat):Int)) (by omega) (by omega);rw[aQe]at abu air;have aiv:=gW (out:=Vl) (j:=n+1) (by omega);have aqc:=gW (out:=Vl) (j:=n) (by omega);have ayv:=gW (out:=U) (j:=off+(n+2)) (by omega);have ayw:=gW (out:=U) (j:=off+(n+1)) (by omega);have aqb:=gW (out:=U) (j:=off+n) (by omega);have bv1:=gN hV.1 (i:=n+1);have bv2:=gN hV.1 (i:=n);have FQ:=gN Od (i:=off+(n+2));have FR:=gN Od (i:=off+(n+1));have FT:=gN Od (i:=off+n);generalize Vl.getD (n+1) 0=v1 at*;generalize Vl.getD n 0=v2 at*;generalize U.getD (off+(n+2)) 0=u0 at*;generalize U.getD (off+(n+1)) 0=u1 at*;generalize U.getD (off+n) 0=u2 at*;have c2:(((n+2:Nat):Int)<((n+3:Nat):Int))=True:=eq_true (by omega);have c1:(((n+1:Nat):Int)<((n+3:Nat):Int))=True:=eq_true (by omega);have c0:(((n:Nat):Int)<((n+3:Nat):Int))=True:=eq_true (by omega);have w1:aV .i64 (((n+2:Nat):Int)-1)=((n+1:Nat):Int):=by rw[wrap_i64 (by omega) (by omega)];omega
 have w2:aV .i64 (((n+2:Nat):Int)-2)=((n:Nat):Int):=by rw[wrap_i64 (by omega) (by omega)];omega
 have wv1:aV .u64 (v1:Int)=v1:=wrap_u64 (by omega);have wv2:aV .u64 (v2:Int)=v2:=wrap_u64 (by omega);have wu0:aV .u64 (u0:Int)=u0:=wrap_u64 (by omega);have wu1:aV .u64 (u1:Int)=u1:=wrap_u64 (by omega);have wu2:aV .u64 (u2:Int)=u2:=wrap_u64 (by omega);have axk:∀{cc:Bool} {t:Nat},dy E cc .or t (.int .u64 ((u0*4294967296:Nat):Int)) (.int .u64 (u1:Int))=some (.int .u64 ((u0*4294967296+u1:Nat):Int)):=by intro cc t;rw[IA (by omega) (by omega),O9 FR]
 have hv0:v1≠0:=by omega
 have Zo:(u0*4294967296+u1)/v1<=u0*4294967296+u1:=Nat.div_le_self _ _;have wq:aV .u64 (((u0*4294967296+u1)/v1:Nat):Int)=(((u0*4294967296+u1)/v1:Nat):Int):=wrap_u64 (by omega);have ahP:=L.first;have QG:=Nat.div_add_mod (u0*4294967296+u1) v1;have hml:=aRY (u0*4294967296+u1) (show 0<v1 by omega);simp only[↓aQ,kL,aK,↓reduceIte,aa,ah,ae,lH,jU,↓D0 gU jT,yS gU jT,hl,g0,g1,gV hV,hn,abu,aiv,ayv,ayw,c1,c2,w1,wv1,wu0,wu1,vU FQ,axk,Qg hv0,qL hv0,wq,fw];refine fh (fun k_ ts H=>∃q rest,k_=8589934592-rest/\ts.length=173/\gt ts 0=.aI 0 off (n+3) 1 kc/\gt ts 1=vv/\gt ts 5=.int .i64 ((n+2:Nat):Int)/\gt ts 7=.int .u64 (q:Nat)/\gt ts 8=.int .u64 (rest:Nat)/\H=.cells .live (cP U)::H1/\(q*v1+rest=u0*4294967296+u1)/\(pY U off (n+3)/val Vl<=q)) (8589934592-(u0*4294967296+u1)%v1) ?_ ?_
 rotate_left
 ·refine⟨(u0*4294967296+u1)/v1,(u0*4294967296+u1)%v1,(by first|omega|rfl|(simp;done)),(by simp only[cK,hl]),?_⟩;simp only[cM,hl,aa,ae,g0,g1]
  iterate 6 refine⟨by first|trivial|rfl|(congr 1;omega)|(simp;done)|(simp;omega),?_⟩
  refine⟨?_,?_⟩
  ·rw[aRV];exact QG
  ·exact ahP
 clear hl g0 g1 ts;rintro k_ ts H ⟨q,rest,rfl,hl,g0,g1,g5,g7,g8,rfl,hq,F5⟩;refine VS ?_;have aGM:q<=u0*4294967296+u1:=by
  have:q*1<=q*v1:=aQn _ (by omega)
  omega
 by_cases hr:rest<4294967296
 ·have dr:decide ((rest:Int)<4294967296)=true:=cF (by omega);have wr:aV .u64 ((rest:Int)+(v1:Int))=((rest+v1:Nat):Int):=by rw[<-aRq];exact wrap_u64 (by omega)
  by_cases hqB:4294967296<=q
  ·have dq:decide ((q:Int)≥4294967296)=true:=cF (by omega);have wq1:aV .u64 ((q:Int)-1)=((q-1:Nat):Int):=by rw[show(q:Int)-1=((q-1:Nat):Int)by omega];exact wrap_u64 (by omega)
   simp(maxSteps:=2000000)only[↓aQ,kL,aK,aa,ah,ae,lH,↓gL gU jT,yS gU jT,hl,g1,g5,g7,g8,dr,dq,w1,wv1,wr,wq1,abu,aiv]
   refine dO ?_;refine⟨_,?_,q-1,rest+v1,rfl,(by simp only[cK,hl]),?_⟩
   ·first|omega|(simp;omega)
   simp only[cM,hl,aa,ae,g0,g1,g5]
   iterate 6 refine⟨by first|trivial|rfl|(congr 1;omega)|(simp;done)|(simp;omega),?_⟩
   refine⟨?_,?_⟩
   ·have:(q-1)*v1+v1=q*v1:=Mx (by omega)
    omega
   ·have:=L.ltB
    omega
  ·have dq:decide ((q:Int)≥4294967296)=false:=cH (by omega);have Ou:q*v2<=4294967295*4294967295:=aSb (by omega) (by omega);have wm:aV .u64 ((q:Int)*(v2:Int))=((q*v2:Nat):Int):=by rw[<-aRp];exact wrap_u64 (by omega)
   have ao0:∀{cc:Bool} {t:Nat},dy E cc .or t (.int .u64 ((rest*4294967296:Nat):Int)) (.int .u64 (u2:Int))=some (.int .u64 ((rest*4294967296+u2:Nat):Int)):=by intro cc t;rw[IA (by omega) (by omega),O9 FT]
   by_cases hc:q*v2>rest*4294967296+u2
   ·have dc:decide (((q*v2:Nat):Int)>((rest*4294967296+u2:Nat):Int))=true:=cF (by omega);have hq0:0<q:=aSh fun e=>by subst e;omega
    have wq1:aV .u64 ((q:Int)-1)=((q-1:Nat):Int):=by rw[show(q:Int)-1=((q-1:Nat):Int)by omega];exact wrap_u64 (by omega)
    simp(maxSteps:=2000000)only[↓aQ,kL,aK,↓reduceIte,aa,ah,ae,lH,↓D0 gU jT,↓gL gU jT,yS gU jT,hl,g0,g1,g5,g7,g8,dr,dq,dc,w1,w2,wv1,wv2,wu2,wm,wr,wq1,vU hr,ao0,abu,air,aiv,aqc,aqb,c0,fw]
    refine dO ?_;refine⟨_,?_,q-1,rest+v1,rfl,(by simp only[cK,hl]),?_⟩
    ·first|omega|(simp;omega)
    simp only[cM,hl,aa,ae,g0,g1,g5]
    iterate 6 refine⟨by first|trivial|rfl|(congr 1;omega)|(simp;done)|(simp;omega),?_⟩
    refine⟨?_,?_⟩
    ·have:(q-1)*v1+v1=q*v1:=Mx (by omega)
     omega
    ·exact L.step hq F5 hc
   ·have dc:decide (((q*v2:Nat):Int)>((rest*4294967296+u2:Nat):Int))=false:=cH (by omega);obtain⟨l1,l2⟩:=L.last hq (.inr ⟨by omega,by omega⟩)
    simp(maxSteps:=2000000)only[↓aQ,kL,aK,↓reduceIte,aa,ah,ae,lH,↓D0 gU jT,yS gU jT,hl,g0,g1,g5,g7,g8,dr,dq,dc,w2,wv2,wu2,wm,vU hr,ao0,air,aqc,aqb,c0,fw]
    refine oa q _ l1 F5 l2 (by simp only[cK,hl]) ?_ ?_ ?_ ?_
    all_goals simp only[cM,ae,g0,g1,g5,g7]
 ·have dr:decide ((rest:Int)<4294967296)=false:=cH (by omega);obtain⟨l1,l2⟩:=L.last hq (.inl (by omega))
  simp(maxSteps:=2000000)only[↓aQ,kL,aK,↓reduceIte,aa,ah,ae,yS gU jT,hl,g8,dr]
  refine oa q _ l1 F5 l2 (by simp only[cK,hl]) ?_ ?_ ?_ ?_
  all_goals simp only[cM,ae,g0,g1,g5,g7]
theorem x7{l:List Nat}{off m:Nat}(h:off+m<=l.length):val l=val (l.take off)+4294967296^off*(pY l off m+4294967296^m*val (l.drop (off+m))):=by
 have e1:l=l.take off++l.drop off:=(aSe off l).symm;have e2:l.drop off=(l.drop off).take m++(l.drop off).drop m:=(aSe m _).symm;have h1:(l.take off).length=off:=by rw[aMp];omega
 have h2:((l.drop off).take m).length=m:=by rw[aMp,aR4];omega
 conv=>lhs;rw[e1]
 rw[o7,h1]
 conv=>lhs;rw[e2]
 rw[o7,h2,List.drop_drop];rfl
theorem yr{a b:List Nat}(hl:a.length=b.length)(h:∀j,j<a.length->a.getD j 0=b.getD j 0):a=b:=by
 refine List.ext_getElem hl fun j h1 h2=>?_
 have:=h j h1
 rw[aP8,aP8,aMh h1,aMh h2]at this;exact this
theorem getD_take{l:List Nat}{n j:Nat}(h:j<n):(l.take n).getD j 0=l.getD j 0:=by rw[aP8,List.getElem?_take_of_lt h,aP8]
theorem A4{l:List Nat}{n j:Nat}:(l.drop n).getD j 0=l.getD (n+j) 0:=by rw[aP8,aK8,aP8]
theorem PU{W W':List Nat}{off m:Nat}(h:off+m<=W.length)(hl:W'.length=W.length)(ho:∀j,(j<off∨off+m<=j)->W'.getD j 0=W.getD j 0):
  val W'+4294967296^off*pY W off m=val W+4294967296^off*pY W' off m:=by
 rw[x7 h,x7 (l:=W') (off:=off) (m:=m) (by omega)];have e1:W'.take off=W.take off:=by
  refine yr (by rw[aMp,aMp,hl]) fun j hj=>?_
  rw[aMp]at hj;rw[getD_take (by omega),getD_take (by omega),ho j (by omega)]
 have e2:W'.drop (off+m)=W.drop (off+m):=by
  refine yr (by rw[aR4,aR4,hl]) fun j hj=>?_
  rw[A4,A4,ho _ (by omega)]
 rw[e1,e2,aQa,aQa];omega
theorem W4{U:List Nat}{off m:Nat}(h:off<U.length):pY U off (m+1)=U.getD off 0+4294967296*pY U (off+1) m:=by unfold pY;rw[List.drop_eq_getElem_cons h,List.take_succ_cons];simp[val,aP8,h]
theorem Aw:∀{l:List Nat},(∀j,l.getD j 0=0)->val l=0
 |[],_=>rfl
 |d::l,h=>by
  have h0:=h 0;simp only[List.getD_cons_zero]at h0
  have:=Aw (l:=l) fun j=>by have:=h (j+1);simpa using this
  simp[val,h0,this]
theorem adq{W:List Nat}{m:Nat}(hm:m<=W.length)(h:∀j,m<=j->W.getD j 0=0):val W=pY W 0 m:=by have h1:=x7 (l:=W) (off:=0) (m:=m) (by omega);rw[Aw (l:=W.drop (0+m)) fun j=>by rw[A4];exact h _ (by omega)]at h1;rw[h1];simp[val]
theorem O3{U:List Nat}{off m K:Nat}(h:off+m=U.length)(hK:val U<4294967296^off*K):pY U off m<K:=by have h1:=x7 (l:=U) (off:=off) (m:=m) (by omega);rw[h,List.drop_length]at h1;simp only[val,aRs,aR0]at h1;refine aR1 (a:=4294967296^off) ?_;generalize 4294967296^off=P at*;omega
theorem vV:∀{k x:Nat},0<x->x<2^k->2^(Lib.bitLenAux k x-1)<=x/\x<2^Lib.bitLenAux k x/\0<Lib.bitLenAux k x/\Lib.bitLenAux k x<=k
 |0,x,h0,h=>by simp at h;omega
 |k+1,x,h0,h=>by
  rw[Lib.bitLenAux,if_neg (by omega)];by_cases hx:x/2=0
  ·have:x=1:=by omega
   subst this;rw[hx]
   have:Lib.bitLenAux k 0=0:=by cases k<;>simp[Lib.bitLenAux]
   rw[this]
   simp
  ·obtain⟨h1,h2,h3,h4⟩:=vV (k:=k) (x:=x/2) (by omega) (by rw[aQi]at h;omega);have e1:2^(1+Lib.bitLenAux k (x/2)-1)=2^(Lib.bitLenAux k (x/2)-1)*2:=by rw[<-aQi];congr 1;omega
   have e2:2^(1+Lib.bitLenAux k (x/2))=2^(Lib.bitLenAux k (x/2))*2:=by rw[<-aQi];congr 1;omega
   rw[e1,e2];omega
theorem Pw{x:Nat}(h0:0<x)(h:x<4294967296):∃n:Nat,n<32/\(32-(Lib.bitLen x:Int))=(n:Int)/\2147483648<=x*2^n/\(x+1)*2^n<=4294967296:=by
 obtain⟨h1,h2,h3,_⟩:=vV (k:=64) h0 (by omega);have h4:Lib.bitLenAux 64 x<=32:=by
  refine Nat.le_of_not_lt fun gO=>?_
  have:2^32<=2^(Lib.bitLenAux 64 x-1):=aRX (by omega) (by omega)
  omega
 refine⟨32-Lib.bitLenAux 64 x,by omega,by unfold Lib.bitLen;omega,?_,?_⟩
 ·have:=aL8 (2^(32-Lib.bitLenAux 64 x)) h1
  rw[<-aR3,show Lib.bitLenAux 64 x-1+(32-Lib.bitLenAux 64 x)=31 by omega]at this;exact this
 ·have:=aL8 (2^(32-Lib.bitLenAux 64 x)) (show x+1<=2^Lib.bitLenAux 64 x by omega)
  rw[<-aR3,show Lib.bitLenAux 64 x+(32-Lib.bitLenAux 64 x)=32 by omega]at this;exact this
theorem S7{n:Nat}:0<4294967296^n:=Nat.pow_pos (by decide)
theorem Xd{b V:List Nat}{m n:Nat}(hb:∀d∈b,d<4294967296)(hl:b.length=m+1)(hV:∀d∈V,d<4294967296)(hn:Norm V)(h1:2147483648<=b.getD m 0*2^n)(h2:(b.getD m 0+1)*2^n<=4294967296)(hv:val V=val b*2^n):
  V.length=m+1/\2147483648<=V.getD m 0:=by
 have eb:=tu (l:=b);rw[hl,cN (by omega)]at eb;have lb:val (b.take m)<4294967296^m:=by
  have:=o8 (l:=b.take m) fun d hd=>hb d (aQj hd)
  rwa[aMp,aSa (by omega)]at this
 have hP:=S7 (n:=m);have jN:4294967296^m*2147483648<=val V:=by
  rw[hv,<-eb];generalize 4294967296^m=P at*
  have:P*2147483648<=P*(b.getD m 0*2^n):=aQn _ h1
  rw[aMb,aQl];omega
 have Ok:val V<4294967296^m*4294967296:=by
  rw[hv,<-eb];generalize 4294967296^m=P at*;have h3:(val (b.take m)+P*b.getD m 0)*2^n<P*(b.getD m 0+1)*2^n:=by refine aR6 ?_ (aRW n);rw[aQa,aQq];omega
  have h4:P*(b.getD m 0+1)*2^n<=P*4294967296:=by rw[aQl];exact aQn _ h2
  omega
 have hVl:=o8 hV;have dM:V≠[]:=by
  intro e;subst e
  simp only[val]at jN
  have:0<4294967296^m*2147483648:=Nat.mul_pos hP (by decide)
  omega
 have hVg:=BE hn dM;have len:V.length=m+1:=by
  have a1:m<V.length:=by refine(aR8 (a:=4294967296) (by omega)).1 ?_;generalize 4294967296^m=P at*;generalize 4294967296^V.length=Q at*;omega
  have a2:V.length-1<m+1:=by refine(aR8 (a:=4294967296) (by omega)).1 ?_;rw[aQi];generalize 4294967296^m=P at*;generalize 4294967296^(V.length-1)=Q at*;omega
  omega
 refine⟨len,?_⟩;have eV:=tu (l:=V);rw[len,cN (by omega)]at eV;have lV:val (V.take m)<4294967296^m:=by
  have:=o8 (l:=V.take m) fun d hd=>hV d (aQj hd)
  rwa[aMp,aSa (by omega)]at this
 rw[<-eV]at jN;generalize 4294967296^m=P at*;have h5:P*2147483648<P*(V.getD m 0+1):=by rw[aQa,aQq];omega
 have:=aR1 h5
 omega
theorem Yg{a b V:List Nat}{n:Nat}(ha:∀d∈a,d<4294967296)(hb:Norm b)(dM:b≠[])(hle:b.length<=a.length)(hV:val V=val b*2^n):val a*2^n<4294967296^(a.length-b.length)*(4294967296*val V):=by
 have h1:=o8 ha;have h2:=BE hb dM;have hl:0<b.length:=List.length_pos_iff.2 dM;have e:a.length=(a.length-b.length)+1+(b.length-1):=by omega
 rw[hV];have h3:val a*2^n<4294967296^a.length*2^n:=aR6 h1 (aRW n);refine aNU h3 ?_;rw[e,aR3,aQi];rw[<-e];have e2:4294967296^(a.length-b.length)*(4294967296*(val b*2^n))=4294967296^(a.length-b.length)*4294967296*val b*2^n:=by ac_rfl
 rw[e2];exact aL8 _ (aQn _ h2)
theorem pE{E:Env}{f:Nat}{al:List AV}{r:AV}(h:E.ov f al=some r)(hp:cg E f=false):aO E f al=some r:=by
 refine ed ⟨fun fi oJ=>?_,0,?_⟩
 ·unfold cg at hp;rw[oJ]at hp;obtain⟨code,ntmps,results,pu,du⟩:=fi;cases pu
  ·simp at hp
  ·rfl
 ·unfold call qc;rw[h]
theorem abO{x:Nat}(h:x<4294967296):aO E 177 [.int .u32 (x:Int)]=some (.int .i64 (32-(Lib.bitLen x:Int))):=by
 refine pE ?_ apU;rw[C.SX _ _ (by decide)];rw[show ij yh 177 [.int .u32 (x:Int)]=Xp [.int .u32 (x:Int)]by simp[ij,yh]];unfold Xp;simp only;rw[if_pos ⟨by omega,by omega⟩]
 simp
theorem ay6{H:Hp}{m i j:Nat}(FE:i<j)(hj:j<=m):AE E H 58 (.aI 0 0 m 1 m) (some (.int .i64 (i:Int))) (some (.int .i64 (j:Int)))=some (.aI 0 i (j-i) 1 (m-i)):=by
 obtain⟨ti,e,ei,h1,h2,h3,h4,h5,_⟩:=iB (CQ (E:=E));obtain⟨cS,isAgg,size,bytes,zero,eQ⟩:=ti;simp only at h2;subst h2;have hb:gG m m (some (.int .i64 (i:Int))) (some (.int .i64 (j:Int)))=some (i,j):=by simp only[gG,hiE,asNat,loE];rw[if_pos ⟨by omega,by omega⟩];simp only[aQe];rw[if_pos ⟨by omega,by omega⟩]
 simp only[AE,h1,iM,h3,hb];rw[if_neg (by omega)];by_cases hi:i=0
 ·subst hi;simp
 ·rw[if_neg hi,if_neg (by omega)];simp[]
end Go.Proofs.YtblnjkjjedanaaaGreatDoor
