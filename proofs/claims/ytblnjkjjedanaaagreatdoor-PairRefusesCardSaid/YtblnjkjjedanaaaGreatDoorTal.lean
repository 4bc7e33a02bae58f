/- A part of the proof that PairRefuses returns true for every input; no condition of its own. -/
import Derived.Test.YtblnjkjjedanaaaGreatDoorTak
import Derived.IntWalk
set_option linter.all false
set_option maxHeartbeats 100000000
set_option maxRecDepth 100000
open List renaming length_set->aPp,getElem?_cons_zero->aP1,getElem?_cons_succ->aP2,length_cons->aMn,length_nil->aP3,replicate->aK6,cons_append->aP4,nil_append->aP5,take_of_length_le->aP6,getD->aP8,reverse_append->aQb,drop_eq_getElem_cons->aQc,getElem?_eq_getElem->aMh,replicate_succ->aQf,dropLast_concat_getLast->aQg,drop_zero->aQh,mem_of_mem_take->aQj,reverse_reverse->aQk,take_succ_cons->aQo,drop_succ_cons->aQp,drop_length->aQs,getElem_mem->aMo
open Bool renaming false_eq_true->aLs,or_true->aP7,and_true->aP9,or_self->aQd,true_and->aQm,and_eq_true->aMq
open Option renaming map_some->aNj,bind_some->aOS,isSome_iff_exists->aNk
open Nat renaming zero_add->aMg,mul_add->aQa,le_refl->aLr,pow_succ->aQi,mul_assoc->aQl,mul_le_mul_left->aQn,mul_one->aQq,reduceLT->aa,reduceEqDiff->ae,reduceAdd->ah
open Int renaming toNat_natCast->aQe
namespace Go.Proofs.YtblnjkjjedanaaaGreatDoor
open Go Dv
structure Over(E:Env):Prop where
 fn:E.fn=E0.fn
 ty:E.ty=E0.ty
 ud:E.ud=fun _ _ _=>none
 pairs:E.pairs=E0.pairs
 glob:E.glob=E0.glob
class Ctx(E:Env):Prop extends Over E where
 ov:∀f l,f∉N1->E.ov f l=none
 SX:∀f l,f∈RU->E.ov f l=ij yh f l
section
variable{E:Env}
theorem Qj{f:Nat}{fi:FnI}{args:List AV}{r:AV}(mG:E.ov f args=none)(jj:E.fn f=some fi)(hp:fi.pure=true)
  (h:Cv E fi.code (args++aK6 (fi.ntmps-args.length) aX) [] fun ex ts H=>(∀id,ex≠ .exit id)/\∃rs bs,iU H E ts fi.results=some rs/\bW H [kE rs]=some ([r],bs)):∃n,call E n f args=some r:=by
 obtain⟨n,ex,ts,H,h1,h2,rs,bs,h3,h4⟩:=h;refine⟨n,?_⟩;unfold call qc;simp only[mG,jj,hp,Bool.true_or,Bool.not_true,aLs,if_false,h1];cases ex with
 |exit id=>exact absurd rfl (h2 id)
 |normal=>simp only[h3,h4]
 |ret=>simp only[h3,h4]
end
def cP(l:List Nat):List AV:=l.map fun(n:Nat)=>.int .u32 (n:Int)
def fG(v:AV)(l:List Nat):Prop:=(∀d∈l,d<4294967296)/\(v=.aJ (cP l) l.length∨(l=[]/\(v=.aH∨v=.ef)))
section
variable{E:Env}
structure Gr(E:Env):Prop where
 t66:∃i,E.ty 58=some i/\i.cS=.slice 156/\i.isAgg=false
 t126:∃i,E.ty 156=some i/\i.cS=.int .u32/\i.isAgg=false/\i.size=1/\i.zero=some [.int .u32 0]/\i.bytes=4
theorem eH(T:Gr E){v:AV}{l:List Nat}(h:fG v l){H:Hp}{aM:Nat}:aZ E H aM .len [58] [v]=some (.int .i64 (l.length:Nat),[]):=by
 obtain⟨i,h1,h2,_⟩:=T.t66;obtain⟨cS,isAgg,size,bytes,zero,eQ⟩:=i;simp only at h2;subst h2;rcases h.2 with rfl|⟨rfl,rfl|rfl⟩<;>simp[aZ,sf,h1]
theorem kN(T:Gr E){v:AV}{l:List Nat}(h:fG v l){k:IntKind}{z:Int}(h0:0<=z)(h1:z<(l.length:Int)):cI E 58 v (.int k z)=some (.eU (cP l) z.toNat):=by
 obtain⟨i,e1,e2,_⟩:=T.t66;obtain⟨j,f1,f2,f3,f4,_⟩:=T.t126;rcases h.2 with rfl|⟨rfl,_⟩
 ·simp only[cI,e1,e2,f1,f4];rw[if_pos ⟨h0,h1⟩,aQq]
 ·simp at h1;omega
theorem sd(T:Gr E){l:List Nat}{H:Hp}{n:Nat}(h:n<l.length):gl E H 156 (.eU (cP l) n)=some (.int .u32 (l.getD n 0:Nat)):=by obtain⟨j,f1,f2,f3,f4,_⟩:=T.t126;simp[gl,Fh,ik,f1,f3,cP,aP8,h]
theorem ajO(T:Gr E){v:AV}{l:List Nat}(h:fG v l){k:IntKind}{z:Int}(h0:0<=z)(h1:z<=(l.length:Int)):∃r,iM E 58 v none (some (.int k z))=some r/\fG r (l.take z.toNat):=by
 obtain⟨i,e1,e2,_⟩:=T.t66;obtain⟨j,f1,f2,f3,f4,_⟩:=T.t126;have hd:∀d∈l.take z.toNat,d<4294967296:=fun d hd=>h.1 d (aQj hd)
 rcases h.2 with rfl|⟨rfl,hv⟩
 ·have hb:gG l.length l.length none (some (.int k z))=some (0,z.toNat):=by simp only[gG,hiE,asNat,loE];rw[if_pos ⟨h0,h1⟩]
  by_cases hz:z.toNat=0
  ·refine⟨.ef,?_,hd,.inr ⟨by rw[hz];rfl,.inr rfl⟩⟩;simp only[iM,e1,e2,f1,hb];rw[if_pos hz.symm]
  ·refine⟨.aJ (cP (l.take z.toNat)) (l.take z.toNat).length,?_,hd,.inl rfl⟩;simp only[iM,e1,e2,f1,hb,f4];rw[if_neg (fun e=>hz e.symm)]
   have:min z.toNat l.length=z.toNat:=by omega
   simp[cP,List.map_take,this]
 ·have hz:z=0:=by simp at h1;omega
  subst hz;refine⟨v,?_,by simp,.inr ⟨rfl,hv⟩⟩;rcases hv with rfl|rfl<;>simp[iM,e1,e2,f1,gG,hiE,asNat,loE]
end
theorem wrap_i64{n:Int}(h0: -9223372036854775808<=n)(h1:n<=9223372036854775807):aV .i64 n=n:=IntWalk.i64_in _ ⟨h0,h1⟩
noncomputable def YB:Code:=(match Tryz.f120.body with|some c=>c|none=>.skip)
theorem Qy:E0.fn 120=some {code:=YB,ntmps:=21,results:=[.tmp 2],pure:=true,eX:=false}:=by kernel_rfl
theorem acy{E:Env}{ops rest:List Oper}{ts:List AV}{H:Hp}{q:List AV->Hp->Prop}{d t i0 i2 t1:Nat}{p:String}{af:Array Edge}{ti:yT}(ht:E.ty t1=some ti){e:Nat}(hu:ti.cS=.slice e)(ha:ti.isAgg=false):
  ft E ops (⟨some d,.slice t1 (.tmp i0) none (some (.tmp i2)) none,t,p,af,none⟩::rest) ts H q=cu (iM E t1 (gt ts i0) none (some (gt ts i2))) fun r=>ft E ops rest (ts.set d r) H q:=by
 rw[Ti ht (by rw[hu,ha]) ha];rfl
def kb(l:List Nat):List Nat:=(l.reverse.dropWhile (·==0)).reverse
theorem adk{E:Env}(T:Gr E){v:AV}{l:List Nat}(h:fG v l)(hlen:l.length<1000000000000){ts:List AV}{H:Hp}(hl:ts.length=21)(g0:gt ts 0=v){Q:Ex->List AV->Hp->Prop}
  (hQ:∀df r,gt df 2=r->fG r (kb l)->Q .ret df H):Cv E YB ts H Q:=by
 obtain⟨i66,e1,e2,e3⟩:=T.t66;refine Cv.seq (Cv.run ?_);simp only[Pl,cz];refine Cv.seq (Cv.block ?_);refine Cv.loop (fun k ts H'=>∃v l',k=l'.length/\fG v l'/\l'.length<=l.length/\kb l'=kb l/\ts.length=21/\gt ts 0=v/\H'=H) ?_ l.length _ _ ⟨v,l,rfl,h,aLr _,rfl,by simp[hl],by simp[dG,g0],rfl⟩;clear hl g0 h v ts;rintro k ts H' ⟨v,l',rfl,h,hle,htr,hl,g0,rfl⟩;refine Cv.seq (Cv.seq (Cv.run ?_));have fin:l'=[]∨(∃d l0,l'=l0++[d]/\d≠0)->kb l'=l':=by
  rintro(rfl|⟨d,l0,rfl,hd⟩)
  ·rfl
  ·unfold kb;rw[aQb];simp[hd]
 by_cases h0:0<l'.length
 ·have hd:decide ((l'.length:Int)>0)=true:=cF (by omega);have hw:aV .i64 ((l'.length:Int)-1)=((l'.length:Int)-1):=wrap_i64 (by omega) (by omega);have FF:=kN T h (k:=.i64) (z:=(l'.length:Int)-1) (by omega) (by omega);have htn:((l'.length:Int)-1).toNat=l'.length-1:=by omega
  rw[htn]at FF;simp only[jg,qb,Dj,acx,Co,xS,uh,cz,aP,cW,jt,bO,dG,aPp,Fc,uD,sR,wc,aP1,aP2,aOS,Gy,beq_self_eq_true,oR,AP,Nz,aa,ne_eq,ae,not_false_eq_true,bQ,hl,g0,eH T h,hd,hw,FF,sd T (show l'.length-1<l'.length by omega)];refine Cv.cond (t:=((l'.getD (l'.length-1) 0:Nat):Int)==0) (by rw[cT];simp only[bO,aPp,hl,aa]) ?_;obtain⟨l0,d,rfl⟩:∃l0 d,l'=l0++[d]:=⟨l'.dropLast,l'.getLast (by intro e;simp[e]at h0),by rw[aQg]⟩;have hg:(l0++[d]).getD ((l0++[d]).length-1) 0=d:=by simp[aP8]
  rw[hg];by_cases hz:d=0
  ·subst hz;have AD:(((0:Nat):Int)==0)=true:=rfl;rw[AD];simp only[if_true];refine Cv.skip ?_;refine Cv.block (Cv.run ?_);obtain⟨r,wJ,yp⟩:=ajO T h (k:=.i64) (z:=((l0++[0]).length:Int)-1) (by omega) (by omega);rw[htn]at yp;simp only[jg,o0,qb,Co,cz,aP,cW,bO,dG,aPp,uD,oR,aa,ne_eq,ae,not_false_eq_true,hl,g0,eH T h,hw,acy e1 e2 e3,wJ];refine⟨l0.length,by simp,r,l0,rfl,by simpa using yp,by simp at hle;omega,?_,by simp[],by simp[],by first|rfl|trivial⟩;rw[<-htr];unfold kb;rw[aQb]
   simp
  ·have dM:(((d:Nat):Int)==0)=false:=by simp[hz]
   rw[dM];simp only[aLs,if_false];refine Cv.exit ?_;simp only[if_true];refine Cv.seq (Cv.run ?_);simp only[jg,o0,cz,bO,dG,aPp,aa,ne_eq,ae,not_false_eq_true,hl,g0];refine Cv.ret (hQ _ v (by simp[bO,hl]) ?_);rw[<-htr,fin (.inr ⟨d,l0,rfl,hz⟩)];exact h
 ·have hd:decide ((l'.length:Int)>0)=false:=cH (by omega);have I4:l'=[]:=by cases l' with
   |nil=>rfl
   |cons a t=>simp at h0
  simp only[jg,qb,Dj,acx,Co,xS,uh,cz,aP,cW,fR,bO,dG,aPp,Cl,uD,sR,wc,aP1,aP2,aOS,Gy,oR,AP,aa,ne_eq,ae,not_false_eq_true,bQ,hl,g0,eH T h,hd,show(some false==some true)=false from rfl,bQ];refine Cv.cond (t:=false) (by rw[cT];simp only[bO,aPp,hl,aa]) ?_;simp only[aLs,if_false];refine Cv.exit ?_;simp only[if_true];refine Cv.seq (Cv.run ?_);simp only[jg,o0,cz,bO,dG,aPp,aa,ne_eq,ae,not_false_eq_true,hl,g0];refine Cv.ret (hQ _ v (by simp[bO,hl]) ?_);rw[<-htr,fin (.inl I4)];exact h
def val:List Nat->Nat
 |[]=>0
 |d::l=>d+4294967296*val l
def Norm(l:List Nat):Prop:=∀d l0,l=l0++[d]->d≠0
theorem o7(a b:List Nat):val (a++b)=val a+4294967296^a.length*val b:=by
 induction a with
 |nil=>simp[val]
 |cons d a ih=>simp only[aP4,val,ih,aMn,aQi];rw[aQa,Nat.add_assoc,Nat.mul_comm (4294967296^a.length) 4294967296,aQl]
theorem sW(l:List Nat):∃n,l=kb l++aK6 n 0:=by
 unfold kb;have h:∀r:List Nat,∃n,r=aK6 n 0++r.dropWhile (·==0):=by
  intro r;induction r with
  |nil=>exact⟨0,rfl⟩
  |cons d r ih=>
   by_cases hd:d=0
   ·obtain⟨n,hn⟩:=ih;refine⟨n+1,?_⟩;subst hd;simp only[List.dropWhile_cons,beq_self_eq_true,if_true,aQf,aP4];rw[<-hn]
   ·refine⟨0,?_⟩
    have:(d==0)=false:=by simpa using hd
    simp[this]
 obtain⟨n,hn⟩:=h l.reverse;refine⟨n,?_⟩
 have:=congrArg List.reverse hn
 rw[aQk,aQb,List.reverse_replicate]at this;exact this
theorem kq(l:List Nat):Norm (kb l):=by
 intro d l0 h;unfold kb at h;have h2:=congrArg List.reverse h;rw[aQk,aQb]at h2;simp only[List.reverse_cons,List.reverse_nil,aP5,List.singleton_append]at h2;intro hd
 have:=List.head?_dropWhile_not (fun x:Nat=>x==0) l.reverse
 rw[h2]at this;simp[hd]at this
theorem Ia(n:Nat):val (aK6 n 0)=0:=by
 induction n with
 |zero=>rfl
 |succ n ih=>simp[aQf,val,ih]
theorem jY(l:List Nat):val (kb l)=val l:=by
 obtain⟨n,hn⟩:=sW l
 have:=congrArg val hn
 rw[o7,Ia]at this;simpa using this.symm
def fk(v:AV)(z:Int):Prop:=∃(neg:Bool) (m:AV) (l:List Nat),v=.agg [.bool neg,m]/\fG m l/\Norm l/\(neg=true->l≠[])/\z=(if neg then-(val l:Int)else val l)
theorem o8{l:List Nat}(h:∀d∈l,d<4294967296):val l<4294967296^l.length:=by
 induction l with
 |nil=>simp[val]
 |cons d l ih=>
  have h1:=ih fun x hx=>h x (by simp[hx])
  have h2:=h d (by simp);simp only[val,aMn,aQi]
  have:4294967296*(val l+1)<=4294967296^l.length*4294967296:=by rw[Nat.mul_comm];exact Nat.mul_le_mul_right _ h1
  omega
theorem BE{l:List Nat}(hn:Norm l)(dM:l≠[]):4294967296^(l.length-1)<=val l:=by
 obtain⟨l0,d,rfl⟩:∃l0 d,l=l0++[d]:=⟨l.dropLast,l.getLast dM,by rw[aQg]⟩;have hd:=hn d l0 rfl;rw[o7];simp only[val,List.length_append,aMn,aP3,Nat.mul_zero,Nat.add_zero,aMg,Nat.add_sub_cancel]
 have:4294967296^l0.length*1<=4294967296^l0.length*d:=aQn _ (by omega)
 omega
theorem uv{l:List Nat}{i:Nat}(h:i<l.length):val l=val (l.take i)+4294967296^i*(l.getD i 0+4294967296*val (l.drop (i+1))):=by
 have e:l=l.take i++l.drop i:=(List.take_append_drop i l).symm;have h1:(l.take i).length=i:=by simp;omega
 conv=>lhs;rw[e]
 rw[o7,h1,aQc h];simp[val,aP8,h]
theorem Ro{a b:List Nat}(ha:∀d∈a,d<4294967296)(hl:a.length=b.length){i:Nat}(hi:i<a.length)(hd:a.drop (i+1)=b.drop (i+1))(gO:a.getD i 0<b.getD i 0):val a<val b:=by
 rw[uv hi,uv (show i<b.length by omega),hd];have h1:val (a.take i)<4294967296^i:=by
  have:=o8 (l:=a.take i) fun d hd=>ha d (aQj hd)
  rwa[show(a.take i).length=i by simp;omega]at this
 have h2:4294967296^i*(a.getD i 0+4294967296*val (b.drop (i+1))+1)<=4294967296^i*(b.getD i 0+4294967296*val (b.drop (i+1))):=aQn _ (by omega);rw[aQa,aQq]at h2;omega
theorem x6{a b:List Nat}(ha:∀d∈a,d<4294967296)(hb:Norm b)(h:a.length<b.length):val a<val b:=by have h1:=o8 ha;have h2:=BE hb (by intro e;subst e;simp at h);have h3:4294967296^a.length<=4294967296^(b.length-1):=Nat.pow_le_pow_right (by omega) (by omega);omega
def pP(x y:Int):Int:=if x<y then-1 else if y<x then 1 else 0
theorem jf{E:Env}(h:Over E):Gr E:=by
 have h66:∃i,E0.ty 58=some i/\i.cS=.slice 156/\i.isAgg=false:=by
  obtain⟨i,hi⟩:∃i,E0.ty 58=some i:=aNk.1 (by kernel_rfl);have a1:(E0.ty 58).map (·.cS)=some (.slice 156):=by kernel_rfl
  have a2:(E0.ty 58).map (·.isAgg)=some false:=by kernel_rfl
  rw[hi]at a1 a2;exact⟨i,hi,by simpa using a1,by simpa using a2⟩
 have h126:∃i,E0.ty 156=some i/\i.cS=.int .u32/\i.isAgg=false/\i.size=1/\i.zero=some [.int .u32 0]/\i.bytes=4:=by
  obtain⟨i,hi⟩:∃i,E0.ty 156=some i:=aNk.1 (by kernel_rfl);have a1:(E0.ty 156).map (·.cS)=some (.int .u32):=by kernel_rfl
  have a2:(E0.ty 156).map (·.isAgg)=some false:=by kernel_rfl
  have a3:(E0.ty 156).map (·.size)=some 1:=by kernel_rfl
  have a4:(E0.ty 156).map (·.zero)=some (some [.int .u32 0]):=by kernel_rfl
  have a5:(E0.ty 156).map (·.bytes)=some 4:=by kernel_rfl
  rw[hi]at a1 a2 a3 a4 a5;exact⟨i,hi,by simpa using a1,by simpa using a2,by simpa using a3,by simpa using a4,by simpa using a5⟩
 exact⟨by rw[h.ty];exact h66,by rw[h.ty];exact h126⟩
noncomputable def Xn:Code:=(match Tryz.f121.body with|some c=>c|none=>.skip)
theorem KL:E0.fn 121=some {code:=Xn,ntmps:=41,results:=[.tmp 4],pure:=true,eX:=false}:=by kernel_rfl
theorem Xo{E:Env}(C:Ctx E){va vb:AV}{a b:List Nat}(ha:fG va a)(hb:fG vb b)(na:Norm a)(nb:Norm b)(la:a.length<1000000000000)(lb:b.length<1000000000000){ts:List AV}{H:Hp}(hl:ts.length=41)(g0:gt ts 0=va)(g1:gt ts 1=vb){Q:Ex->List AV->Hp->Prop}
  (hQ:∀df,gt df 4=.int .i64 (pP (val a) (val b))->Q .ret df H):Cv E Xn ts H Q:=by
 have T:=jf C.toOver;refine Cv.seq (Cv.run ?_);simp only[oZ,cz];refine Cv.seq (Cv.seq (Cv.run ?_));simp only[jg,Ag,Co,cz,aP,cW,bO,dG,aPp,uD,aa,ne_eq,ae,not_false_eq_true,NB,hl,g0,g1,eH T ha,eH T hb];refine Cv.cond (t:=((a.length:Int)!=(b.length:Int))) (by rw[cT];simp only[bO,aPp,hl,aa]) ?_;by_cases hlen:a.length=b.length
 ·have h1:((a.length:Int)!=(b.length:Int))=false:=by simp[hlen]
  rw[h1];simp only[aLs,if_false];refine Cv.skip ?_;refine Cv.seq (Cv.seq (Cv.run ?_));have hw:aV .i64 ((a.length:Int)-1)=((a.length:Int)-1):=wrap_i64 (by omega) (by omega);simp only[jg,o0,qb,Co,cz,aP,cW,bO,dG,aPp,uD,oR,aa,ne_eq,ae,not_false_eq_true,hl,g0,eH T ha,hw];refine Cv.block (Cv.loop (fun k ts H'=>k<=a.length/\ts.length=41/\gt ts 0=va/\gt ts 1=vb/\gt ts 5=.int .i64 ((k:Int)-1)/\a.drop k=b.drop k/\H'=H) ?_ a.length _ _ ?_)
  rotate_left
  ·exact⟨aLr _,by simp[hl],by simp[dG,g0],by simp[dG,g1],by simp[bO,hl],by rw[aQs,hlen,aQs],rfl⟩
  clear hl g0 g1 ts;rintro k ts H' ⟨hk,hl,g0,g1,g5,hdr,rfl⟩;refine Cv.seq (Cv.seq (Cv.run ?_));simp only[jg,qb,cz,aP,bO,aa,AO,hl,g5];refine Cv.cond (t:=decide ((k:Int)-1≥0)) (by rw[cT];simp only[bO,aPp,hl,aa]) ?_;by_cases hk0:k=0
  ·have h2:decide ((k:Int)-1≥0)=false:=cH (by omega);rw[h2];simp only[aLs,if_false];refine Cv.exit ?_;simp only[if_true];refine Cv.seq (Cv.run ?_);simp only[oZ,cz];refine Cv.ret (hQ _ ?_);rw[bO (by simp[hl])];subst hk0;simp only[aQh]at hdr;subst hdr;unfold pP;rw[if_neg (by omega),if_neg (by omega)]
  ·have h2:decide ((k:Int)-1≥0)=true:=cF (by omega);rw[h2];simp only[if_true];refine Cv.skip ?_;have uM:=kN T ha (k:=.i64) (z:=(k:Int)-1) (by omega) (by omega);have QI:=kN T hb (k:=.i64) (z:=(k:Int)-1) (by omega) (by omega);have htn:((k:Int)-1).toNat=k-1:=by omega
   rw[htn]at uM QI;have Bi:=fun H'=>sd T (l:=a) (H:=H') (n:=k-1) (by omega)
   have M8:=fun H'=>sd T (l:=b) (H:=H') (n:=k-1) (by omega)
   refine Cv.seq (Cv.block (Cv.seq (Cv.ajJ rfl (by rw[C.pairs];rfl) ?_)));simp only[jg,Ag,Dj,acx,cz,aP,bO,dG,aPp,aa,ne_eq,ae,not_false_eq_true,NB,hl,g0,g1,g5,uM,QI,Bi,M8];refine Cv.cond (t:=(((a.getD (k-1) 0:Nat):Int)!=((b.getD (k-1) 0:Nat):Int))) (by rw[cT];simp only[bO,aPp,hl,aa]) ?_;have hka:k-1<a.length:=by omega
   have sD:a.drop (k-1)=a.getD (k-1) 0::a.drop k:=by rw[aQc hka,show k-1+1=k by omega];simp[aP8,hka]
   have Zq:k-1<b.length:=by omega
   have B7:b.drop (k-1)=b.getD (k-1) 0::b.drop k:=by rw[aQc Zq,show k-1+1=k by omega];simp[aP8,Zq]
   by_cases hd:a.getD (k-1) 0=b.getD (k-1) 0
   ·have h3:(((a.getD (k-1) 0:Nat):Int)!=((b.getD (k-1) 0:Nat):Int))=false:=by rw[hd];simp
    rw[h3];simp only[aLs,if_false];refine Cv.skip ?_;refine Cv.run ?_;have wN:aV .i64 ((k:Int)-1-1)=((k:Int)-1-1):=wrap_i64 (by omega) (by omega);simp only[jg,o0,qb,cz,aP,bO,dG,aPp,oR,aa,ne_eq,ae,not_false_eq_true,hl,g5,wN];refine⟨k-1,by omega,by omega,by simp[],by simp[g0],by simp[g1],?_,by rw[sD,B7,hd,hdr],by first|rfl|trivial⟩
    first|(rw[bO (by simp[hl])];congr 1;omega)|(congr 1;omega)
   ·have h3:(((a.getD (k-1) 0:Nat):Int)!=((b.getD (k-1) 0:Nat):Int))=true:=by simp only[bne_iff_ne,ne_eq];omega
    rw[h3];simp only[if_true];refine Cv.seq (Cv.seq (Cv.ajJ rfl (by rw[C.pairs];rfl) ?_));simp only[jg,Ag,Dj,acx,cz,aP,bO,dG,aPp,iI,aa,ne_eq,ae,not_false_eq_true,hl,g0,g1,g5,uM,QI,Bi,M8];refine Cv.cond (t:=decide (((a.getD (k-1) 0:Nat):Int)<((b.getD (k-1) 0:Nat):Int))) (by rw[cT];simp only[bO,aPp,hl,aa]) ?_;have Es:k-1+1=k:=by omega
    by_cases gO:a.getD (k-1) 0<b.getD (k-1) 0
    ·have h4:decide (((a.getD (k-1) 0:Nat):Int)<((b.getD (k-1) 0:Nat):Int))=true:=cF (by omega);rw[h4];simp only[if_true];refine Cv.seq (Cv.run ?_);simp only[oZ,cz];refine Cv.ret (hQ _ ?_);rw[bO (by simp[hl])]
     have:=Ro ha.1 hlen hka (by rw[Es];exact hdr) gO
     unfold pP;rw[if_pos (by omega)]
    ·have h4:decide (((a.getD (k-1) 0:Nat):Int)<((b.getD (k-1) 0:Nat):Int))=false:=cH (by omega);rw[h4];simp only[aLs,if_false];refine Cv.skip ?_;refine Cv.seq (Cv.run ?_);simp only[oZ,cz];refine Cv.ret (hQ _ ?_);rw[bO (by simp[hl])]
     have:=Ro hb.1 hlen.symm Zq (by rw[Es];exact hdr.symm) (by omega)
     unfold pP;rw[if_neg (by omega),if_pos (by omega)]
 ·have h1:((a.length:Int)!=(b.length:Int))=true:=by simp;omega
  rw[h1];simp only[if_true];refine Cv.seq (Cv.seq (Cv.run ?_));simp only[jg,Ag,Co,cz,aP,cW,bO,dG,aPp,uD,iI,aa,ne_eq,ae,not_false_eq_true,hl,g0,g1,eH T ha,eH T hb];refine Cv.cond (t:=decide ((a.length:Int)<(b.length:Int))) (by rw[cT];simp only[bO,aPp,hl,aa]) ?_;by_cases gO:a.length<b.length
  ·have h2:decide ((a.length:Int)<(b.length:Int))=true:=cF (by omega);rw[h2];simp only[if_true];refine Cv.seq (Cv.run ?_);simp only[oZ,cz];refine Cv.ret (hQ _ ?_)
   have:=x6 ha.1 nb gO
   rw[bO (by simp[hl])];unfold pP;rw[if_pos (by omega)]
  ·have h2:decide ((a.length:Int)<(b.length:Int))=false:=cH (by omega);rw[h2];simp only[aLs,if_false];refine Cv.skip ?_;refine Cv.seq (Cv.run ?_);simp only[oZ,cz];refine Cv.ret (hQ _ ?_)
   have:=x6 hb.1 na (by omega)
   rw[bO (by simp[hl])];unfold pP;rw[if_neg (by omega),if_pos (by omega)]
theorem uR{E:Env}(C:Ctx E){va vb:AV}{a b:List Nat}(ha:fG va a)(hb:fG vb b)(na:Norm a)(nb:Norm b)(la:a.length<1000000000000)(lb:b.length<1000000000000):
  mw E 121 [va,vb] (.int .i64 (pP (val a) (val b))):=by
 refine⟨fun fi h=>?_,?_⟩
 ·rw[C.fn,KL]at h;cases h;rfl
 ·refine Qj (C.ov 121 _ (by decide)) (by rw[C.fn];exact KL) rfl ?_;refine Xo C ha hb na nb la lb rfl rfl rfl fun df h4=>⟨fun id h=>(by cases h),[.int .i64 (pP (val a) (val b))],[],?_,rfl⟩
  show some [gt df 4]=_
  rw[h4]
theorem aL{v:AV}{l:List Nat}(h:fG v l):aN v=true:=by
 rcases h.2 with rfl|⟨_,rfl|rfl⟩
 ·simp only[aN]
 ·rfl
 ·rfl
theorem kJ{E:Env}(C:Ctx E){v:AV}{l:List Nat}(h:fG v l)(hlen:l.length<1000000000000):∃r,mw E 120 [v] r/\fG r (kb l):=by
 have:∃r,fG r (kb l)/\∃n,call E n 120 [v]=some r:=by
  have key:Cv E YB ([v]++aK6 20 aX) [] fun ex ts H=>∃r,fG r (kb l)/\(∀id,ex≠ .exit id)/\∃rs bs,iU H E ts [.tmp 2]=some rs/\bW H [kE rs]=some ([r],bs):=by
   refine adk (jf C.toOver) h hlen rfl rfl fun df r h2 hr=>⟨r,hr,fun id h=>(by cases h),[r],[],?_,?_⟩
   ·show some [gt df 2]=_
    rw[h2]
   ·unfold bW;rw[show bE [kE [r]]=true by simp[bE,kE,aL hr]];rfl
  obtain⟨n,ex,ts,H,h1,r,hr,h2⟩:=key;exact⟨r,hr,Qj (C.ov 120 _ (by decide)) (by rw[C.fn];exact Qy) rfl ⟨n,ex,ts,H,h1,h2⟩⟩
 obtain⟨r,hr,n,hn⟩:=this;exact⟨r,⟨fun fi h=>(by rw[C.fn,Qy]at h;cases h;rfl),n,hn⟩,hr⟩
theorem aq2{E:Env}(C:Ctx E):∃pl,gQ E 60=some pl/\pl 0=some (0,1)/\pl 1=some (1,1):=by
 have h:gQ E 60=gQ E0 60:=by unfold gQ;rw[C.ty]
 rw[h];have a:(gQ E0 60).map (fun f=>(f 0,f 1))=some (some (0,1),some (1,1)):=by kernel_rfl
 cases hp:gQ E0 60 with
 |none=>rw[hp]at a;cases a
 |some pl=>rw[hp]at a;simp only[aNj,Option.some.injEq,Prod.mk.injEq]at a;exact⟨pl,rfl,a.1,a.2⟩
theorem YN{E:Env}(C:Ctx E):∃i,E.ty 60=some i/\i.isAgg=true/\i.size=2/\i.zero=some [.bool false,.aH]:=by
 rw[C.ty];obtain⟨i,hi⟩:∃i,E0.ty 60=some i:=aNk.1 (by kernel_rfl);have a1:(E0.ty 60).map (·.isAgg)=some true:=by kernel_rfl
 have a2:(E0.ty 60).map (·.size)=some 2:=by kernel_rfl
 have a3:(E0.ty 60).map (·.zero)=some (some [.bool false,.aH]):=by kernel_rfl
 rw[hi]at a1 a2 a3;exact⟨i,hi,by simpa using a1,by simpa using a2,by simpa using a3⟩
theorem aY{v:AV}{l:List Nat}(h:fG v l):v.cells=[v]/\b7 v=true:=by
 rcases h.2 with rfl|⟨_,rfl|rfl⟩<;>exact⟨rfl,rfl⟩
theorem N3{pl:Nat->Option (Nat×Nat)}(p0:pl 0=some (0,1))(p1:pl 1=some (1,1)){b:Bool}{v:AV}{l:List Nat}(h:fG v l):hZ pl [.bool false,.aH] [(0,.bool b),(1,v)]=some [.bool b,v]:=by
 simp[hZ,p0,p1,AV.cells]
 have:=(aY h).1
 unfold AV.cells at this;simp[this]
theorem sA{E:Env}(C:Ctx E):gX E 60=some (.agg [.bool false,.aH]):=by obtain⟨i,h1,h2,_,h3⟩:=YN C;simp[gX,h1,h2,h3]
theorem Rm{E:Env}(C:Ctx E){H:Hp}{b:Nat}{c0 c1 x y:AV}(hb:H[b]?=some (.cells .live [c0,c1]))(hx:b7 x=true)(hy:b7 y=true):iC E H 60 (.b6 b 0) (.agg [x,y])=some [(b,.cells .live [x,y])]:=by obtain⟨i,h1,h2,h4,h3⟩:=YN C;simp[iC,h1,hb,h4,AV.cells,hx,hy,dE]
theorem aiz{E:Env}(C:Ctx E){H:Hp}{b:Nat}{x y:AV}(hb:H[b]?=some (.cells .live [x,y])):gl E H 60 (.b6 b 0)=some (.agg [x,y]):=by obtain⟨i,h1,h2,h4,h3⟩:=YN C;simp[gl,Fh,hb,ik,h1,h2,h4]
noncomputable def signedC:Code:=(match Tryz.f87.body with|some c=>c|none=>.skip)
theorem RY:E0.fn 87=some {code:=signedC,ntmps:=15,results:=[.cell 4 60],pure:=true,eX:=false}:=by kernel_rfl
theorem ka{E:Env}(C:Ctx E){m:AV}{l:List Nat}(h:fG m l)(hlen:l.length<1000000000000)(neg:Bool):
  ∃r,mw E 87 [.bool neg,m] r/\fk r (if neg then-(val l:Int)else val l):=by
 refine DK (C.ov 87 _ (by decide)) (by rw[C.fn];exact RY) rfl ?_;have T:=jf C.toOver;show Cv E signedC ([.bool neg,m]++aK6 13 aX) [] _
 generalize hts:[AV.bool neg,m]++aK6 13 aX=ts;have hl:ts.length=15:=by subst hts;rfl
 have g0:gt ts 0=.bool neg:=by subst hts;rfl
 have g1:gt ts 1=m:=by subst hts;rfl
 clear hts;obtain⟨r,hr,I6⟩:=kJ C h hlen;obtain⟨pl,hp,p0,p1⟩:=aq2 C;obtain⟨i68,z1,_,_,z2⟩:=YN C;have hz:(E.ty 60).bind (·.zero)=some [.bool false,.aH]:=by rw[z1];exact z2
 refine Cv.seq (Cv.run ?_);simp only[cz,aP,ne_eq,XJ,sA C];rw[show([]:Hp).length=0 from rfl,show(cJ.bM [(0,cG.cells iH.live (AV.agg [AV.bool false,AV.aH]).cells)]).app []=[.cells .live [.bool false,.aH]]from rfl];refine Cv.seq (Cv.run ?_);simp only[jg,dG,ne_eq,ae,not_false_eq_true,g1];refine ajG (al:=[m]) (by simp only[nL,cT,bO,aPp,hl,aa]) (by simp[bE,aL h]) hr ?_;simp only[o0,cz,bO,aPp,aa,hl];refine Cv.seq (Cv.run ?_);have gO:(kb l).length<1000000000000:=by
  obtain⟨n,hn⟩:=sW l
  have:=congrArg List.length hn
  simp at this;omega
 have fin:∀(b:Bool) (df:List AV),b=(neg&&decide (0<(kb l).length))->gt df 4=.b6 0 0->(∀id,Ex.ret≠ .exit id)/\∃rs r' bs,iU [.cells .live [.bool b,r]] E df [.cell 4 60]=some rs/\bW [.cells .live [.bool b,r]] [kE rs]=some ([r'],bs)/\fk r' (if neg then-(val l:Int)else val l):=by
  intro b df hb h4;refine⟨fun id h=>(by cases h),[.agg [.bool b,r]],.agg [.bool b,r],[],?_,KM (by simp[aN,bE,kE,aL I6]),b,r,kb l,rfl,I6,kq l,?_,?_⟩
  ·have h4':df[4]?.getD aX=.b6 0 0:=h4;simp only[iU,h4',aiz C (H:=[.cells .live [.bool b,r]]) (b:=0) (x:=.bool b) (y:=r) rfl]
  ·intro sG I4;rw[hb,I4]at sG;simp at sG
  ·rw[jY,hb];cases neg with
   |false=>simp
   |true=>
    by_cases h0:0<(kb l).length
    ·simp[h0]
    ·have I4:kb l=[]:=by cases ht:kb l with
      |nil=>rfl
      |cons a t=>rw[ht]at h0;simp at h0
     have hv:=jY l;rw[I4]at hv;simp only[val]at hv;simp[h0,<-hv]
 cases neg with
 |true=>
  have hd:decide (((kb l).length:Int)>0)=decide (0<(kb l).length):=by congr 1;simp
  simp only[jg,qb,Co,xS,uh,aP,cW,jt,bO,dG,aPp,Fc,uD,sR,wc,aP1,aP2,aOS,Gy,beq_self_eq_true,AP,aa,ne_eq,ae,not_false_eq_true,bQ,hl,g0,eH T I6,hd];rw[Rb hp hz (vs:=[(0,.bool (decide (0<(kb l).length))),(1,r)]) (by simp only[xH,cT,bO,dG,aPp,hl,aa,ne_eq,ae,not_false_eq_true]) (N3 p0 p1 I6)];simp only[cz,dU,bO,dG,aPp,aa,ne_eq,ae,not_false_eq_true,Rc,hl,Rm C (H:=[.cells .live [.bool false,.aH]]) (b:=0) (c0:=.bool false) (c1:=.aH) rfl (show b7 (.bool (decide (0<(kb l).length)))=true from rfl) (aY I6).2];refine Cv.ret (fin (decide (0<(kb l).length)) _ (by simp) (by simp[bO,dG,hl]))
 |false=>
  simp only[jg,qb,Co,xS,uh,aP,fR,bO,dG,aPp,Cl,sR,wc,aP1,aP2,aOS,Gy,aa,ne_eq,ae,not_false_eq_true,bQ,hl,g0,show(some false==some true)=false from rfl];rw[Rb hp hz (vs:=[(0,.bool false),(1,r)]) (by simp only[xH,cT,bO,dG,aPp,hl,aa,ne_eq,ae,not_false_eq_true]) (N3 p0 p1 I6)];simp only[cz,dU,bO,dG,aPp,aa,ne_eq,ae,not_false_eq_true,Rc,hl,Rm C (H:=[.cells .live [.bool false,.aH]]) (b:=0) (c0:=.bool false) (c1:=.aH) rfl (show b7 (.bool false)=true from rfl) (aY I6).2];refine Cv.ret (fin false _ (by simp) (by simp[bO,dG,hl]))
def cellAt:Hp->Nat->Nat->Option AV
 |.cells .live cs::_,0,o=>cs[o]?
 |.cells .ro cs::_,0,o=>cs[o]?
 |_::H,b+1,o=>cellAt H b o
 |_,_,_=>none
theorem fw{cs:List AV}{H:Hp}{o:Nat}:cellAt (.cells .live cs::H) 0 o=cs[o]?:=rfl
theorem UX{cs:List AV}{H:Hp}{o:Nat}:cellAt (.cells .ro cs::H) 0 o=cs[o]?:=rfl
theorem ky{x:cG}{H:Hp}{b o:Nat}:cellAt (x::H) (b+1) o=cellAt H b o:=by cases x<;>(try rfl);rename_i s cs;cases s<;>rfl
theorem iT:∀{H:Hp} {b o:Nat},cellAt H b o=(match H[b]? with|some (.cells st cs)=>if st=.dead then none else cs[o]?|_=>none)
 |[],b,o=>by cases b<;>rfl
 |x::H,b+1,o=>by rw[ky,iT];simp
 |x::H,0,o=>by
  cases x with
  |cells st cs=>cases st<;>rfl
  |_=>rfl
def One(E:Env)(t:Nat):Prop:=∃i,E.ty t=some i/\i.isAgg=false/\i.size=1
theorem js{E:Env}{t:Nat}(h:One E t){H:Hp}{b o:Nat}:gl E H t (.b6 b o)=cellAt H b o:=by
 obtain⟨i,h1,h2,_⟩:=h;rw[iT];unfold gl Fh;simp only;cases H[b]? with
 |none=>rfl
 |some x=>
  cases x with
  |cells st cs=>
   simp only;by_cases hd:st=.dead
   ·simp only[hd,if_true]
   ·simp only[hd,if_false,ik,h1,h2];rfl
  |_=>rfl
def QO(E:Env)(t:Nat):Bool:=match E.ty t with
 |some i=>!i.isAgg&&i.size==1
 |none=>false
theorem aiT{E:Env}{t:Nat}(h:QO E t=true):One E t:=by
 unfold QO at h;cases hi:E.ty t with
 |none=>rw[hi]at h;cases h
 |some i=>
  rw[hi]at h;simp only[aMq,Bool.not_eq_true',beq_iff_eq]at h;exact⟨i,hi,h.1,h.2⟩
theorem Q0{E:Env}(C:Ctx E){t:Nat}(h:QO E0 t=true):One E t:=by refine aiT ?_;unfold QO at h⊢;rw[C.ty];exact h
theorem Gc{E:Env}(C:Ctx E):One E 4:=Q0 C (by kernel_rfl)
theorem aqy{E:Env}(C:Ctx E):One E 3:=Q0 C (by kernel_rfl)
theorem yu{E:Env}(C:Ctx E):One E 58:=Q0 C (by kernel_rfl)
def OH(E:Env)(t n:Nat):Bool:=match E.ty t with
 |some i=>i.isAgg&&i.size==n
 |none=>false
theorem ale{E:Env}(C:Ctx E){t n:Nat}(h:OH E0 t n=true):OH E t n=true:=by unfold OH at h⊢;rw[C.ty];exact h
def nZ(n:Nat):Hp->Nat->Nat->Option AV
 |.cells .live cs::_,0,o=>if o+n<=cs.length then some (.agg ((cs.drop o).take n))else none
 |.cells .ro cs::_,0,o=>if o+n<=cs.length then some (.agg ((cs.drop o).take n))else none
 |_::H,b+1,o=>nZ n H b o
 |_,_,_=>none
theorem mM{n:Nat}{cs:List AV}{H:Hp}{o:Nat}:nZ n (.cells .live cs::H) 0 o=if o+n<=cs.length then some (.agg ((cs.drop o).take n))else none:=rfl
theorem ZL{n:Nat}{cs:List AV}{H:Hp}{o:Nat}:nZ n (.cells .ro cs::H) 0 o=if o+n<=cs.length then some (.agg ((cs.drop o).take n))else none:=rfl
theorem qJ{n:Nat}{x:cG}{H:Hp}{b o:Nat}:nZ n (x::H) (b+1) o=nZ n H b o:=by cases x<;>(try rfl);rename_i s cs;cases s<;>rfl
theorem mE{n:Nat}:∀{H:Hp} {b o:Nat},nZ n H b o=(match H[b]? with|some (.cells st cs)=>if st=.dead then none else if o+n<=cs.length then some (.agg ((cs.drop o).take n))else none|_=>none)
 |[],b,o=>by cases b<;>rfl
 |x::H,b+1,o=>by rw[qJ,mE];simp
 |x::H,0,o=>by
  cases x with
  |cells st cs=>cases st<;>rfl
  |_=>rfl
theorem qo{E:Env}{t n:Nat}(h:OH E t n=true){H:Hp}{b o:Nat}:gl E H t (.b6 b o)=nZ n H b o:=by
 unfold OH at h;cases hi:E.ty t with
 |none=>rw[hi]at h;cases h
 |some i=>
  rw[hi]at h;simp only[aMq,beq_iff_eq]at h;obtain⟨h1,rfl⟩:=h;rw[mE];unfold gl Fh;simp only;cases H[b]? with
  |none=>rfl
  |some x=>
   cases x with
   |cells st cs=>
    simp only;by_cases hd:st=.dead
    ·simp only[hd,if_true]
    ·simp only[hd,if_false,ik,hi,h1,if_true]
   |_=>rfl
def mY(n:Nat)(xs:List AV):Hp->Nat->Nat->Option cG
 |.cells .live cs::_,0,o=>if(xs.length==n&&(decide (o+n<=cs.length)&&xs.all b7))=true then some (.cells .live (dE cs o xs))else none
 |_::H,b+1,o=>mY n xs H b o
 |_,_,_=>none
theorem l8{n:Nat}{xs cs:List AV}{H:Hp}{o:Nat}:mY n xs (.cells .live cs::H) 0 o=if(xs.length==n&&(decide (o+n<=cs.length)&&xs.all b7))=true then some (.cells .live (dE cs o xs))else none:=rfl
theorem qt{n:Nat}{xs:List AV}{x:cG}{H:Hp}{b o:Nat}:mY n xs (x::H) (b+1) o=mY n xs H b o:=by cases x<;>(try rfl);rename_i s cs;cases s<;>rfl
theorem kR{n:Nat}{xs:List AV}:∀{H:Hp} {b o:Nat},mY n xs H b o=(match H[b]? with|some (.cells .live cs)=>if(xs.length==n&&(decide (o+n<=cs.length)&&xs.all b7))=true then some (.cells .live (dE cs o xs))else none|_=>none)
 |[],b,o=>by cases b<;>rfl
 |x::H,b+1,o=>by rw[qt,kR];simp
 |x::H,0,o=>by
  cases x with
  |cells st cs=>cases st<;>rfl
  |_=>rfl
def Lc(E:Env)(t n:Nat):Bool:=match E.ty t with
 |some i=>i.size==n
 |none=>false
theorem arM{E:Env}(C:Ctx E){t n:Nat}(h:Lc E0 t n=true):Lc E t n=true:=by unfold Lc at h⊢;rw[C.ty];exact h
theorem kS{E:Env}{t n:Nat}(h:Lc E t n=true){H:Hp}{b o:Nat}{v:AV}:iC E H t (.b6 b o) v=(mY n v.cells H b o).map fun x=>[(b,x)]:=by
 unfold Lc at h;cases hi:E.ty t with
 |none=>rw[hi]at h;cases h
 |some i=>
  rw[hi]at h;simp only[beq_iff_eq]at h;subst h;rw[kR];unfold iC;simp only[hi];cases H[b]? with
  |none=>rfl
  |some x=>
   cases x with
   |cells st cs=>
    cases st with
    |live=>
     simp only;by_cases h1:v.cells.length=i.size<;>by_cases h2:o+i.size<=cs.length<;>cases h3:v.cells.all b7<;>simp[h1,h2]<;>omega
    |_=>rfl
   |_=>rfl
theorem cR{b:Nat}{x:cG}{H:Hp}:(cJ.bM [(b,x)]).app H=dP H b x:=rfl
theorem k8{b:Nat}{x y:cG}{H:Hp}:dP (y::H) (b+1) x=y::dP H b x:=by
 unfold dP;simp only[aMn,Nat.add_lt_add_iff_right,List.set_cons_succ,aP4]
 split<;>rfl
theorem fU{x y:cG}{H:Hp}:dP (y::H) 0 x=x::H:=by
 unfold dP
 simp
theorem arF:(some true==some true)=true:=rfl
theorem afA:(some false==some true)=false:=rfl
theorem arE:(some true==some false)=false:=rfl
theorem arD:(some false==some false)=true:=rfl
theorem fV{cs xs:List AV}{o:Nat}:dE cs o xs=cs.take o++xs++cs.drop (o+xs.length):=rfl
theorem DA{E:Env}(C:Ctx E):OH E 60 2=true:=ale C (by kernel_rfl)
theorem Fx{E:Env}(C:Ctx E):Lc E 60 2=true:=arM C (by kernel_rfl)
theorem Qi{E:Env}(C:Ctx E){b:Bool}{v:AV}{l:List Nat}(h:fG v l):iJ E 60 [(0,.bool b),(1,v)]=some (.agg [.bool b,v]):=by obtain⟨pl,hp,p0,p1⟩:=aq2 C;obtain⟨i68,z1,_,_,z2⟩:=YN C;unfold iJ;rw[hp,show(E.ty 60).bind (·.zero)=some [.bool false,.aH]by rw[z1];exact z2];simp only[N3 p0 p1 h,aNj]
def isBool(E:Env)(t:Nat):Bool:=match E.ty t with
 |some i=>(match i.cS with|.bool=>true|_=>false)
 |none=>false
theorem UN{E:Env}(C:Ctx E){t:Nat}(h:isBool E0 t=true):isBool E t=true:=by unfold isBool at h⊢;rw[C.ty];exact h
theorem Qt{E:Env}{t n:Nat}(h:isBool E t=true){a b:Bool}:uw E (n+1) t (.bool a) (.bool b)=some (a==b):=by
 unfold isBool at h;cases hi:E.ty t with
 |none=>rw[hi]at h;cases h
 |some i=>
  rw[hi]at h;obtain⟨cS,isAgg,size,bytes,zero,eQ⟩:=i;cases cS<;>first|(cases h;done)|simp[uw,hi]
theorem C1{E:Env}{c:Bool}{t:Nat}(h:isBool E t=true){a b:Bool}:dy E c .neq t (.bool a) (.bool b)=some (.bool (a !=b)):=by
 simp only[dy,dy.BX,aOS,if_true,Qt h,aNj];cases a<;>cases b<;>rfl
theorem Iz{E:Env}{c:Bool}{t:Nat}(h:isBool E t=true){a b:Bool}:dy E c .eql t (.bool a) (.bool b)=some (.bool (a==b)):=by simp only[dy,dy.BX,aOS,if_true,Qt h,aNj]
theorem GB{E:Env}(C:Ctx E):isBool E 4=true:=UN C (by kernel_rfl)
theorem E2{b:Bool}:b7 (.bool b)=true:=rfl
theorem amA{E:Env}(C:Ctx E){b o:Nat}:dx E 60 (.b6 b o) 0=some (.b6 b o)/\dx E 60 (.b6 b o) 1=some (.b6 b (o+1)):=by
 have h:∀f,dx E 60 (.b6 b o) f=(dx E0 60 (.b6 0 0) f).bind fun v=>match v with|.b6 _ k=>some (.b6 b (o+k))|_=>none:=by
  intro f;unfold dx;rw[C.ty];cases E0.ty 60 with
  |none=>rfl
  |some i=>
   obtain⟨cS,isAgg,size,bytes,zero,eQ⟩:=i;cases cS<;>try rfl
   rename_i fs;simp only;cases fs[f]? with
   |none=>rfl
   |some fd=>
    simp only;cases E0.ty fd.type with
    |none=>rfl
    |some fi=>
     simp only;by_cases hz:fi.size=0
     ·simp only[hz,if_true];rfl
     ·simp only[hz,if_false,aMg];rfl
 rw[h 0,h 1,show dx E0 60 (.b6 0 0) 0=some (.b6 0 0)by kernel_rfl,show dx E0 60 (.b6 0 0) 1=some (.b6 0 1)by kernel_rfl];exact⟨rfl,rfl⟩
theorem sY{E:Env}(C:Ctx E){b o:Nat}:dx E 60 (.b6 b o) 0=some (.b6 b o):=(amA C).1
theorem sZ{E:Env}(C:Ctx E){b o:Nat}:dx E 60 (.b6 b o) 1=some (.b6 b (o+1)):=(amA C).2
theorem gJ{l:List AV}:(AV.agg l).cells=l:=rfl
def xd(z:Int):Int:=if z=0 then 0 else if z<0 then-1 else 1
theorem uZ{l:List Nat}(hn:Norm l)(dM:l≠[]):0<val l:=by
 have:=BE hn dM
 have h2:0<4294967296^(l.length-1):=Nat.pow_pos (by omega);omega
def Fit(z:Int):Prop:=∃n,n<10000000000/\z.natAbs<4294967296^n
theorem xJ{l:List Nat}{z:Int}(hn:Norm l)(hz:z.natAbs=val l)(h:Fit z):l.length<10000000001:=by
 obtain⟨n,h1,h2⟩:=h;by_cases he:l=[]
 ·subst he;simp
 ·have h3:=BE hn he;have h4:l.length-1<n:=by
   have:4294967296^(l.length-1)<4294967296^n:=by omega
   exact(Nat.pow_lt_pow_iff_right (by omega)).1 this
  omega
theorem oQ{b:Bool}{n:Nat}:(if b=true then-(n:Int)else(n:Int)).natAbs=n:=by cases b<;>simp
noncomputable def X0:Code:=(match Tryz.f75.body with|some c=>c|none=>.skip)
theorem aaE:E0.fn 75=some {code:=X0,ntmps:=11,results:=[.tmp 2],pure:=true,eX:=false}:=by kernel_rfl
theorem jX{E:Env}(C:Ctx E){v:AV}{z:Int}(h:fk v z):aO E 75 [v]=some (.int .i64 (xd z)):=by
 suffices hh:∃r,aO E 75 [v]=some r/\r=.int .i64 (xd z)by obtain⟨r,h1,rfl⟩:=hh;exact h1
 obtain⟨neg,m,l,rfl,hm,hn,th,rfl⟩:=h;refine fn1 (C.ov 75 _ (by decide)) (by rw[C.fn];exact aaE) rfl (by decide) ?_;intro ts hl g0;have T:=jf C.toOver;show W E X0 ts [] _
 unfold X0;simp only[Tryz.f75,gD,qx,gM,fE,gz,dm,fu,Du,gH,vN,eG,kK,kO,jE,uU,wT,dF,B4,iv,ie,Ek,eT,cz,aP,cW,b8,dT,cT,ec,eS,jq,cQ,gS,qu,bE,aN,aP9,qK,bQ,bO,dG,aPp,aP1,aP2,Nz,aa,ne_eq,ae,not_false_eq_true,gJ,aP5,aMn,aP3,aMg,bK,aP7,hl,g0,sY C,sZ C,js (Gc C),js (yu C),fw,eH T hm];by_cases hz:l=[]
 ·subst hz;cases neg
  ·rfl
  ·exact absurd rfl (th rfl)
 ·have h0:((l.length:Int)==0)=false:=by
   cases l with
   |nil=>exact absurd rfl hz
   |cons a t=>simp;omega
  have hv:=uZ hn hz;rw[h0];unfold xd;cases neg
  ·simp only[aLs,if_false];rw[if_neg (by omega),if_neg (by omega)]
  ·simp only[aLs,if_false,if_true];rw[if_neg (by omega),if_pos (by omega)]
noncomputable def aiJ:Code:=(match Tryz.f146.body with|some c=>c|none=>.skip)
theorem ahj:E0.fn 146=some {code:=aiJ,ntmps:=15,results:=[.cell 2 60],pure:=true,eX:=false}:=by kernel_rfl
theorem EY{E:Env}(C:Ctx E){v:AV}{z:Int}(h:fk v z):∃r,aO E 146 [v]=some r/\fk r (-z):=by
 obtain⟨neg,m,l,rfl,hm,hn,th,rfl⟩:=h;refine fn1 (C.ov 146 _ (by decide)) (by rw[C.fn];exact ahj) rfl (by decide) ?_;intro ts hl g0;have T:=jf C.toOver;show W E aiJ ts [] _
 unfold aiJ;have key:∀b:Bool,b=(!neg&&decide ((l.length:Int)>0))->fk (.agg [.bool b,m]) (-(if neg=true then-(val l:Int)else val l)):=by
  intro b hb;refine⟨b,m,l,rfl,hm,hn,?_,?_⟩
  ·intro h1 h2;subst h2;simp[hb]at h1
  ·by_cases hz:l=[]
   ·subst hz;cases neg<;>cases b<;>simp[val]
   ·have:0<l.length:=by cases l with
     |nil=>exact absurd rfl hz
     |cons a t=>simp
    have h1:decide ((l.length:Int)>0)=true:=cF (by omega);rw[h1,aP9]at hb;subst hb;cases neg<;>simp
 cases neg
 ·simp only[Tryz.f146,↓reduceIte,qx,gM,dm,fu,kK,kO,jE,k9,wT,ga,VR,pn,B4,iv,gh,ie,RZ,Ek,QC,eT,uh,cz,aP,cW,dU,jt,b8,hJ,dT,cT,ec,D7,eS,jq,D9,D8,cQ,mU,Q6,gS,qu,bE,aN,aP9,aQm,Bool.and_self,qK,bQ,bO,dG,aPp,sR,wc,aP1,aP2,aOS,Gy,beq_self_eq_true,AP,PT,aa,ah,ne_eq,ae,not_false_eq_true,gJ,aP5,aP4,aMn,aP3,aMg,bK,aP7,fw,mM,qJ,l8,qt,cR,k8,fU,fV,E2,aNj,List.all_cons,List.all_nil,aQo,List.take_zero,aQp,aQh,List.drop_nil,List.append_nil,aLr,decide_true,List.take_nil,hl,g0,sY C,sZ C,js (Gc C),js (yu C),eH T hm,sA C,Bool.not_false,qo (DA C),kS (Fx C),Qi C hm,(aY hm).2,aL hm];exact key _ rfl
 ·simp only[Tryz.f146,↓reduceIte,qx,gM,dm,fu,kK,kO,jE,k9,wT,ga,VR,pn,B4,iv,gh,ie,RZ,Ek,QC,eT,uh,cz,aP,cW,dU,fR,b8,hJ,dT,cT,ec,D7,eS,jq,D9,D8,cQ,mU,Q5,gS,qu,bE,aN,aP9,aQm,Bool.and_self,qK,bQ,bO,dG,aPp,sR,wc,aP1,aP2,aOS,Gy,beq_self_eq_true,AP,PT,aa,ah,ne_eq,ae,not_false_eq_true,gJ,aP5,aP4,aMn,aP3,aMg,bK,aP7,fw,mM,qJ,l8,qt,cR,k8,fU,afA,fV,E2,aNj,List.all_cons,List.all_nil,aQo,List.take_zero,aQp,aQh,List.drop_nil,List.append_nil,aLr,decide_true,List.take_nil,hl,g0,sY C,sZ C,js (Gc C),js (yu C),eH T hm,sA C,Bool.not_true,qo (DA C),kS (Fx C),Qi C hm,(aY hm).2,aL hm];exact key _ rfl
noncomputable def DO:Code:=(match Tryz.f88.body with|some c=>c|none=>.skip)
theorem N7:E0.fn 88=some {code:=DO,ntmps:=26,results:=[.tmp 4],pure:=true,eX:=false}:=by kernel_rfl
theorem kj{E:Env}(C:Ctx E){v w:AV}{x y:Int}(h:fk v x)(k:fk w y)(fx:Fit x)(fy:Fit y):aO E 88 [v,w]=some (.int .i64 (pP x y)):=by
 suffices hh:∃r,aO E 88 [v,w]=some r/\r=.int .i64 (pP x y)by obtain⟨r,h1,rfl⟩:=hh;exact h1
 obtain⟨na,m,a,rfl,hm,hn,th,rfl⟩:=h;obtain⟨nb,m',b,rfl,kM,yo,K2,rfl⟩:=k;refine fn2 (C.ov 88 _ (by decide)) (by rw[C.fn];exact N7) rfl (by decide) ?_;intro ts hl g0 g1;have T:=jf C.toOver;show W E DO ts [] _
 unfold DO;have la:=xJ hn oQ fx;have lb:=xJ yo oQ fy;have o1:=ed (uR C hm kM hn yo (by omega) (by omega));have o2:=ed (uR C kM hm yo hn (by omega) (by omega));simp only[Tryz.f88,gD,qx,gM,fE,gz,dm,fu,Du,gH,vN,eG,kK,kO,jE,uU,wT,dF,B4,iv,ie,Ek,rW,cz,aP,b8,dT,nY,cT,ec,oT,eS,jq,cQ,gS,qu,bE,aN,aP9,aQm,vT,bQ,bO,dG,aPp,aP1,aP2,aa,ne_eq,ae,not_false_eq_true,gJ,aP5,aP4,aMn,aP3,aMg,bK,aQd,fw,ky,hl,g0,g1,sY C,sZ C,js (Gc C),js (yu C),aL hm,aL kM,o1,o2,C1 (GB C)];have pa:na=true->0<val a:=fun h=>uZ hn (th h)
 have pb:nb=true->0<val b:=fun h=>uZ yo (K2 h)
 unfold pP;cases na<;>cases nb<;>simp only[bne_self_eq_false,aLs,if_false,if_true,Bool.false_bne,Bool.bne_false,AV.int.injEq,true_and]
 ·have:=pb rfl;repeat' split<;>first|rfl|omega
 ·have:=pa rfl;repeat' split<;>first|rfl|omega
 ·repeat' split<;>first|rfl|omega
theorem CO{E:Env}(C:Ctx E){t:Nat}{k:IntKind}(h:je E0 t=some k):je E t=some k:=by unfold je at h⊢;rw[C.ty];exact h
theorem fD{E:Env}{ops rest:List Oper}{ts:List AV}{H:Hp}{q:List AV->Hp->Prop}{d:Option Nat}{t:Nat}{p:String}{af:Array Edge}{s1 d1:Nat}{k0 k':IntKind}{x:Operand}(hs:je E s1=some k0)(hd:je E d1=some k'):
  ft E ops (⟨d,.convert s1 d1 x,t,p,af,none⟩::rest) ts H q=cu (ch ts x) fun a=>cu (toK k' a) fun v=>ft E ops rest (bQ d v ts) H q:=by
 rw[qB rfl (by intro c h;cases h)];simp only[eN];unfold je at hs hd;cases h1:E.ty s1 with
 |none=>rw[h1]at hs;cases hs
 |some si=>
  cases h2:E.ty d1 with
  |none=>rw[h2]at hd;cases hd
  |some di=>
   rw[h1]at hs;rw[h2]at hd;obtain⟨cS,isAgg,size,bytes,zero,eQ⟩:=si;obtain⟨YR,WM,afB,US,afM,aej⟩:=di;cases cS<;>first|(cases hs;done)|skip
   cases YR<;>first|(cases hd;done)|skip
   simp only[Option.some.injEq]at hd;subst hd;cases ch ts x with
   |none=>rfl
   |some v=>cases v<;>simp[GH,h1,h2,toK,cu,FN,qK]
theorem tJ{E:Env}(C:Ctx E):je E 156=some .u32/\je E 154=some .u64/\je E 2=some .i64/\je E 3=some .i64:=
 ⟨CO C (by kernel_rfl),CO C (by kernel_rfl),CO C (by kernel_rfl),CO C (by kernel_rfl)⟩
theorem aiQ{E:Env}(C:Ctx E):One E 156:=Q0 C (by kernel_rfl)
theorem vw{E:Env}(C:Ctx E):Lc E 156 1=true:=arM C (by kernel_rfl)
theorem Re{n:Nat}:iG [.int .u32 0] n=cP (aK6 n 0):=by
 induction n with
 |zero=>rfl
 |succ n ih=>
  rw[aQf];show _=AV.int .u32 0::cP (aK6 n 0)
  rw[<-ih];rfl
theorem W5{E:Env}(C:Ctx E){aM:Nat}{k k':IntKind}{n:Nat}(h:n<100000000000):fL E aM 58 (.int k (n:Int)) (.int k' (n:Int))=some (.aI aM 0 n 1 n,[(aM,.cells .live (cP (aK6 n 0)))]):=by have T:=jf C.toOver;obtain⟨i,e1,e2,e3⟩:=T.t66;obtain⟨j,f1,f2,f3,f4,f5,f6⟩:=T.t126;obtain⟨cS,isAgg,size,bytes,zero,eQ⟩:=i;simp only at e2;subst e2;simp only[fL,e1,f1,f5,f6,f4];rw[if_pos ⟨by omega,Int.le_refl _,by unfold gq;simp only[aQe];omega,by omega,rfl,by omega⟩];simp[Re]
theorem Le{E:Env}(C:Ctx E){b n:Nat}{k:IntKind}{z:Int}(h0:0<=z)(h1:z<(n:Int)):cI E 58 (.aI b 0 n 1 n) (.int k z)=some (.b6 b z.toNat):=by
 have T:=jf C.toOver;obtain⟨i,e1,e2,_⟩:=T.t66;obtain⟨j,f1,f2,f3,f4,_⟩:=T.t126;simp only[cI,e1,e2,f1,f4];by_cases hz:0<=z/\z<(n:Int)
 ·simp[hz]
 ·exact absurd ⟨h0,h1⟩ hz
theorem qd{l:List Nat}:(cP l).length=l.length:=by simp[cP]
theorem xj{l:List Nat}{i x:Nat}(h:i<l.length):dE (cP l) i [.int .u32 (x:Int)]=cP (l.set i x):=by unfold dE cP;rw[List.set_eq_take_append_cons_drop,if_pos h];simp[List.map_take,List.map_drop]
theorem LJ{H:Hp}{m:Nat}:∀{l:List Nat},dh (fz H (m+1)) (cP l)=some ((cP l).map fun v=>(v,[]))
 |[]=>rfl
 |x::l=>by
  have hx:fz H (m+1) (AV.int .u32 x)=some (.int .u32 x,[]):=rfl;show dh (fz H (m+1)) (AV.int .u32 x::cP l)=some ((AV.int .u32 x::cP l).map fun v=>(v,[]))
  unfold dh;rw[hx,LJ (l:=l)];rfl
theorem kD{H:Hp}{n b off len esz k:Nat}{st:iH}{cs:List AV}{r:List (AV×List Nat)}(h:H[b]?=some (.cells st cs))(hd:st≠ .dead)(hl:¬cs.length<off+len*esz)(hr:dh (fz H n) ((cs.drop off).take (len*esz))=some r):
  fz H (n+1) (.aI b off len esz k)=some (.aJ (r.map (·.1)) len,b::r.flatMap (·.2)):=by
 unfold fz;simp only[h,hr];rw[if_neg (by simp[hd];omega)];rfl
theorem wu{H:Hp}{b:Nat}{l:List Nat}{st:iH}(h:H[b]?=some (.cells st (cP l)))(hd:st≠ .dead):bW H [.aI b 0 l.length 1 l.length]=some ([.aJ (cP l) l.length],[b]):=by
 have h2:List.take (l.length*1) (List.drop 0 (cP l))=cP l:=by rw[aQh,aQq,<-qd (l:=l),List.take_length]
 have h3:=kD (n:=39) (off:=0) (len:=l.length) (esz:=1) (k:=l.length) h hd (by rw[qd];omega) (by rw[h2];exact LJ);unfold bW;rw[show bE [AV.aI b 0 l.length 1 l.length]=false by simp[bE,aN]];simp only[aLs,if_false];unfold dh;rw[h3];have h4:((cP l).map fun v=>(v,([]:List Nat))).map (·.1)=cP l:=by rw[List.map_map];exact List.map_id _
 have h5:∀m:List AV,(m.map fun v=>(v,([]:List Nat))).flatMap (·.2)=[]:=by
  intro m;induction m with
  |nil=>rfl
  |cons a m ih=>rw[List.map_cons,List.flatMap_cons,ih];rfl
 rw[h4,h5];rfl
theorem wrap_u32{n:Nat}:aV .u32 (n:Int)=((n%4294967296:Nat):Int):=by
 show IntKind.u32.wrap _=_
 rw[IntKind.wrap_u32];omega
theorem wrap_u64{n:Nat}(h1:n<18446744073709551616):aV .u64 (n:Int)=n:=IntWalk.u64_in _ ⟨by omega,by omega⟩
theorem kY{E:Env}{c:Bool}{t:Nat}{a:Nat}{k:IntKind}:dy E c .shr t (.int .u64 (a:Nat)) (.int k 32)=some (.int .u64 ((a/4294967296:Nat):Int)):=by
 simp only[dy];rw[if_neg (by decide)]
 have:(min (Int.toNat 32) IntKind.u64.bits)=32:=by decide
 rw[this];congr 2;show Int.fdiv (a:Int) ((2:Int)^32)=_
 rw[Int.fdiv_eq_ediv_of_nonneg _ (by decide)];rfl
def aaH:Code->Code
 |.seq a _=>a
 |c=>c
def Tm:Code->Code
 |.seq _ b=>b
 |c=>c
noncomputable def Cn:Code:=(match Tryz.f181.body with|some c=>c|none=>.skip)
noncomputable def Xw:Code:=Tm (Tm Cn)
theorem aaF:E0.fn 181=some {code:=Cn,ntmps:=57,results:=[.tmp 4],pure:=true,eX:=false}:=by kernel_rfl
theorem Xv:Cn=.seq (aaH Cn) (.seq (aaH (Tm Cn)) Xw):=by kernel_rfl
theorem cN{l:List Nat}{i:Nat}(h:i<l.length):val (l.take (i+1))=val (l.take i)+4294967296^i*l.getD i 0:=by rw[List.take_succ,o7,List.length_take,Nat.min_eq_left (by omega),aP8,aMh h];simp[val]
theorem fP{l:List Nat}{i d:Nat}(h:i<l.length):val ((l.set i d).take (i+1))=val (l.take i)+4294967296^i*d:=by rw[cN (by simpa using h),List.take_set_of_le (aLr _),aP8,List.getElem?_set_self h];rfl
theorem dK{l:List Nat}{i d B:Nat}(hl:∀x∈l,x<B)(hd:d<B):∀x∈l.set i d,x<B:=by
 intro x hx;rcases List.mem_or_eq_of_mem_set hx with h|h
 ·exact hl x h
 ·omega
theorem kV{H:Hp}{al:List AV}:oG false H al=bW H al:=rfl
theorem Hw{E:Env}(C:Ctx E){v w:AV}{a b:List Nat}(ha:fG v a)(hb:fG w b)(la:a.length<10000000001)(hle:b.length<=a.length){G:AV->Prop}(hG:∀l,fG (.aJ (cP l) l.length) l->val l=val a+val b->l.length=a.length+1->G (.aJ (cP l) l.length))
  {ts:List AV} (hl:ts.length=57) (g0:gt ts 0=v) (g1:gt ts 1=w):W E Xw ts [] (mS E [.tmp 4] G):=by
 have T:=jf C.toOver;unfold Xw Cn;have vM:aV .i64 ((a.length:Int)+1)=((a.length+1:Nat):Int):=by rw[wrap_i64 (by omega) (by omega)];simp
 simp only[Tryz.f181,Tm,↓reduceIte,qx,gM,fE,dm,vR,fu,kK,jE,uU,wT,ga,dF,ie,pR,eT,cz,aP,cW,b8,cT,ec,eS,jq,cQ,gS,bE,aP9,qK,bQ,bO,dG,aPp,mT,aa,ne_eq,ae,not_false_eq_true,aP5,aP3,bK,aP7,cR,hl,g0,eH T ha,vM,W5 C (show a.length+1<100000000000 by omega),dP];refine He (fun k ts H=>∃i out c,k=a.length-i/\i<=a.length/\ts.length=57/\gt ts 0=v/\gt ts 1=w/\gt ts 20=v/\gt ts 21=.int .i64 (a.length:Nat)/\gt ts 22=.int .i64 (i:Nat)/\gt ts 5=.aI 0 0 (a.length+1) 1 (a.length+1)/\gt ts 6=.int .u64 (c:Nat)/\
  H=[.cells .live (cP out)]/\out.length=a.length+1/\(∀d∈out,d<4294967296)/\c<=1/\val (out.take i)+4294967296^i*c=val (a.take i)+val (b.take i)) (a.length) ?_ ?_
 rotate_left
 ·refine⟨0,aK6 (a.length+1) 0,0,by omega,by omega,by simp[hl],?_⟩;simp only[bO,dG,aPp,hl,aa,ne_eq,ae,not_false_eq_true,g0,g1];refine⟨trivial,trivial,trivial,trivial,rfl,trivial,rfl,?_,by simp,?_,by omega,by simp[val]⟩
  ·simp
  ·intro d hd;have:=(List.mem_replicate.1 hd).2;omega
 clear hl g0 g1 ts;rintro k ts H ⟨i,out,c,rfl,hi,hl,g0,g1,g20,g21,g22,g5,g6,rfl,ho,hd,hc,hv⟩;have hz:=tJ C;have fK:∀(j z:Nat),j<out.length->mY 1 [.int .u32 (z:Int)] [.cells .live (cP out)] 0 j=some (.cells .live (cP (out.set j z))):=by intro j z hj;rw[l8,xj hj,qd,if_pos];simp[b7];omega
 have ye:=fun z=>fK i z (by omega)
 by_cases uM:i<a.length
 ·have sD:decide ((i:Int)<(a.length:Int))=true:=cF (by omega);have F7:=kN T ha (k:=.i64) (z:=(i:Int)) (by omega) (by omega);have Bd:=Le C (b:=0) (n:=a.length+1) (k:=.i64) (z:=(i:Int)) (by omega) (by omega);rw[aQe]at F7 Bd;have Bi:=fun H=>sd T (l:=a) (H:=H) uM
  generalize hx:a.getD i 0=x at Bi;have tk:x<4294967296:=by rw[<-hx];rw[aP8,aMh uM];exact ha.1 _ (aMo uM)
  have w1:aV .u64 (x:Int)=x:=wrap_u64 (by omega);have w2:aV .u64 ((c:Int)+(x:Int))=((c+x:Nat):Int):=by rw[<-Int.natCast_add];exact wrap_u64 (by omega)
  have w5:aV .i64 ((i:Int)+1)=((i+1:Nat):Int):=by rw[wrap_i64 (by omega) (by omega)];simp
  by_cases QI:i<b.length
  ·have B7:decide ((i:Int)<(b.length:Int))=true:=cF (by omega);have Lf:=kN T hb (k:=.i64) (z:=(i:Int)) (by omega) (by omega);rw[aQe]at Lf;have M8:=fun H=>sd T (l:=b) (H:=H) QI
   generalize hy:b.getD i 0=y at M8;have abo:y<4294967296:=by rw[<-hy,aP8,aMh QI];exact hb.1 _ (aMo QI)
   have w3:aV .u64 (y:Int)=y:=wrap_u64 (by omega);have w4:aV .u64 (((c+x:Nat):Int)+(y:Int))=((c+x+y:Nat):Int):=by rw[<-Int.natCast_add];exact wrap_u64 (by omega)
   simp only[↓reduceIte,gD,kX,gM,fE,gz,dm,fu,kW,gH,gR,eG,ga,dF,iv,gh,ie,wD,eT,cz,aP,cW,dU,b8,cT,ec,eS,jq,cQ,aN,qK,bQ,bO,dG,aPp,mT,iI,aa,ne_eq,ae,not_false_eq_true,aMn,aP3,aMg,bK,aQd,aP7,cR,fU,aNj,jz,jy,ye,hl,g0,g1,g20,g21,g22,g5,g6,eH T hb,sD,F7,Bi,fD hz.1 hz.2.1,fD hz.2.1 hz.1,iN,w1,w2,B7,Lf,M8,w3,w4,w5,wrap_u32,kY,Bd,kS (vw C),AV.cells];refine⟨a.length-(i+1),by omega,i+1,out.set i ((c+x+y)%4294967296),(c+x+y)/4294967296,rfl,by omega,trivial,trivial,trivial,trivial,trivial,rfl,trivial,rfl,rfl,by simpa using ho,?_,by omega,?_⟩
   ·exact dK hd (by omega)
   ·rw[fP (by omega),cN uM,cN QI,hx,hy];have e:4294967296^(i+1)*((c+x+y)/4294967296)=4294967296^i*(4294967296*((c+x+y)/4294967296)):=by rw[aQi,aQl]
    have e2:4294967296^i*((c+x+y)%4294967296)+4294967296^i*(4294967296*((c+x+y)/4294967296))=4294967296^i*c+4294967296^i*x+4294967296^i*y:=by rw[<-aQa,Nat.mod_add_div,aQa,aQa]
    omega
  ·have B7:decide ((i:Int)<(b.length:Int))=false:=cH (by omega);simp only[↓reduceIte,gD,kX,gM,fE,gz,dm,fu,kW,gH,gR,eG,ga,dF,iv,gh,ie,wD,eT,cz,aP,cW,dU,b8,cT,ec,eS,jq,cQ,aN,qK,bQ,bO,dG,aPp,mT,iI,aa,ne_eq,ae,not_false_eq_true,aMn,aP3,aMg,bK,aQd,aP7,cR,fU,aNj,jz,jy,ye,hl,g0,g1,g20,g21,g22,g5,g6,eH T hb,sD,F7,Bi,fD hz.1 hz.2.1,fD hz.2.1 hz.1,iN,w1,w2,B7,w5,wrap_u32,kY,Bd,kS (vw C),AV.cells,aLs];refine⟨a.length-(i+1),by omega,i+1,out.set i ((c+x)%4294967296),(c+x)/4294967296,rfl,by omega,trivial,trivial,trivial,trivial,trivial,rfl,trivial,rfl,rfl,by simpa using ho,?_,by omega,?_⟩
   ·exact dK hd (by omega)
   ·have eb:∀j,b.length<=j->b.take j=b:=fun j hj=>aP6 hj
    rw[fP (by omega),cN uM,eb (i+1) (by omega),hx];rw[eb i (by omega)]at hv;have e:4294967296^(i+1)*((c+x)/4294967296)=4294967296^i*(4294967296*((c+x)/4294967296)):=by rw[aQi,aQl]
    have e2:4294967296^i*((c+x)%4294967296)+4294967296^i*(4294967296*((c+x)/4294967296))=4294967296^i*c+4294967296^i*x:=by rw[<-aQa,Nat.mod_add_div,aQa]
    omega
 ·have sD:decide ((i:Int)<(a.length:Int))=false:=cH (by omega);obtain rfl:i=a.length:=by omega
  have Bd:=Le C (b:=0) (n:=a.length+1) (k:=.i64) (z:=(a.length:Int)) (by omega) (by omega);rw[aQe]at Bd;have WC:=fun z=>fK a.length z (by omega)
  have gf:∀z:Nat,oG false [.cells .live (cP (out.set a.length z))] [.aI 0 0 (a.length+1) 1 (a.length+1)]=some ([.aJ (cP (out.set a.length z)) (a.length+1)],[0]):=by
   intro z
   have:=wu (H:=[.cells .live (cP (out.set a.length z))]) (b:=0) (l:=out.set a.length z) (st:=.live) rfl (by decide)
   rw[aPp,ho]at this;exact this
  simp only[↓reduceIte,gD,kX,gM,fE,gz,dm,fu,kW,gH,gR,eG,kO,ga,dF,iv,gh,ie,wD,eT,cz,aP,cW,dU,b8,dT,cT,ec,eS,jq,cQ,aN,qK,bQ,bO,dG,aPp,mT,iI,aa,ne_eq,ae,not_false_eq_true,aMn,aP3,aMg,bK,aQd,aP7,cR,fU,aNj,jz,jy,WC,hl,g0,g1,g20,g21,g22,g5,g6,eH T ha,sD,fD hz.1 hz.2.1,fD hz.2.1 hz.1,iN,wrap_u32,Bd,kS (vw C),AV.cells,aLs,gf];have AA:(out.set a.length (c%4294967296)).length=a.length+1:=by simpa using ho
  have:=hG (out.set a.length (c%4294967296)) ⟨dK hd (by omega),.inl rfl⟩ ?_ AA
  ·rw[AA]at this;exact this
  ·have h1:(out.set a.length (c%4294967296)).take (a.length+1)=out.set a.length (c%4294967296):=aP6 (by omega);rw[<-h1,fP (by omega)];rw[aP6 (aLr _),aP6 hle]at hv;rw[Nat.mod_eq_of_lt (by omega)];exact hv
theorem S6{E:Env}(C:Ctx E){v w:AV}{a b:List Nat}(ha:fG v a)(hb:fG w b)(la:a.length<10000000001)(lb:b.length<10000000001):
  ∃r,aO E 181 [v,w]=some r/\∃l,fG r l/\val l=val a+val b/\l.length=max a.length b.length+1:=by
 refine fn2 (C.ov 181 _ (by decide)) (by rw[C.fn];exact aaF) rfl (by decide) ?_;intro ts hl g0 g1;have T:=jf C.toOver;show W E Cn ts [] _
 rw[Xv];simp only[gM];unfold Cn;by_cases h:a.length<b.length
 ·have hd:decide ((a.length:Int)<(b.length:Int))=true:=cF (by omega);simp only[Tryz.f181,aaH,Tm,↓reduceIte,gD,gM,gz,dm,fu,eG,ga,dF,ie,eT,cz,aP,cW,b8,cT,tO,eS,jq,cQ,qK,bQ,bO,dG,aPp,iI,aa,ne_eq,ae,not_false_eq_true,aP3,bK,aQd,hl,g0,g1,eH T ha,eH T hb,hd];refine Hw C hb ha lb (by omega) ?_ ?_ ?_ ?_
  ·intro l h1 h2 h3;exact⟨l,h1,by omega,by omega⟩
  all_goals simp[bO,dG,hl]
 ·have hd:decide ((a.length:Int)<(b.length:Int))=false:=cH (by omega);simp only[Tryz.f181,aaH,Tm,↓reduceIte,gD,gM,gz,dm,fu,eG,ga,dF,ie,eT,cz,aP,cW,b8,cT,tO,eS,jq,cQ,qK,bQ,bO,dG,aPp,iI,aa,ne_eq,ae,not_false_eq_true,aP3,bK,aQd,hl,g0,g1,eH T ha,eH T hb,hd,aLs];refine Hw C ha hb la (by omega) ?_ ?_ ?_ ?_
  ·intro l h1 h2 h3;exact⟨l,h1,by omega,by omega⟩
  all_goals simp[dG,hl,g0,g1]
end Go.Proofs.YtblnjkjjedanaaaGreatDoor
