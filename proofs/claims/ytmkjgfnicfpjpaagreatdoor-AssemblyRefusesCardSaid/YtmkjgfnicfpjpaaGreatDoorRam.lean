/- Lemmas for AssemblyRefuses; no condition. -/
import Derived.Test.YtmkjgfnicfpjpaaGreatDoorRal
import Derived.Test.YtmkjgfnicfpjpaaGreatDoorRag
import Derived.IntWalk
set_option linter.all false
set_option maxHeartbeats 100000000
set_option maxRecDepth 100000
noncomputable section
open List renaming length_set->aQx,length_cons->aL4,length_nil->aQ9,getElem?_cons_zero->aRa,getElem?_cons_succ->aRb,take_of_length_le->aPk,nil_append->aRd,take_succ_cons->aRg,drop_succ_cons->aRh,replicate->aLu,drop_zero->aRj,cons_append->aRk,append_nil->aRl,take_zero->aRn,getElem?_eq_getElem->aL6,all_cons->aPZ,drop_nil->aRp,take_nil->aRq,all_nil->aRr,getD->aRt,reverse_append->aRw,drop_eq_getElem_cons->aRx,getElem_mem->aMg,replicate_succ->aRy,dropLast_concat_getLast->aRz,modify_succ_cons->aRA,modify_zero_cons->aRB,mem_of_mem_take->aRC,reverse_reverse->aRD,mem_replicate->aRG,drop_length->aRJ
open Bool renaming false_eq_true->aLT,or_true->aRc,and_true->aRf,or_self->aRi,true_and->aRm,and_self->aRo,and_eq_true->aM6
open Option renaming map_some->aMi,bind_some->aP4,isSome_iff_exists->aNb
open Nat renaming zero_add->aL5,mul_add->aRe,le_refl->aLt,pow_succ->aRu,mul_assoc->aRv,mul_le_mul_left->aRE,mul_zero->aRF,mul_one->aRH,reduceLT->aa,reduceEqDiff->ae,reduceAdd->ah
open Int renaming toNat_natCast->aRs
namespace Go.Proofs.YtmkjgfnicfpjpaaGreatDoor
open Go Dv
structure Over(E:Env):Prop where
 fn:E.fn=E0.fn
 ty:E.ty=E0.ty
 rH:E.rH=EV
 pairs:E.pairs=E0.pairs
 glob:E.glob=E0.glob
class Ctx(E:Env):Prop extends Over E where
 ov:∀f l,f∉MG->E.ov f l=none
 ovX:∀f l,f∈Ja->E.ov f l=iC Bo f l
def gd{E:Env}(C:Ctx E){f:Nat}{l:List AV}{H:Hp}(h:f≠215:=by decide):E.rH f l H=none:=by rw[C.rH];exact BO h
section
variable{E:Env}
def PL{f:Nat}{fi:FnI}{args:List AV}{r:AV}(kh:E.ov f args=none)(fC:E.fn f=some fi)(hp:fi.pure=true)
  (h:Cv E fi.code (args++aLu (fi.ntmps-args.length) bT) [] fun ex ts H=>(∀id,ex≠ .exit id)/\∃rs bs,fL H E ts fi.results=some rs/\bX H [gV rs]=some ([r],bs)):∃n,call E n f args=some r:=by
 obtain⟨n,ex,ts,H,h1,h2,rs,bs,h3,h4⟩:=h;refine⟨n,?_⟩;unfold call jF;simp only[kh,fC,hp,Bool.true_or,Bool.not_true,aLT,if_false,h1];cases ex with
 |exit id=>exact absurd rfl (h2 id)
 |normal=>simp only[h3,h4]
 |ret=>simp only[h3,h4]
end
def cB(l:List Nat):List AV:=l.map fun(n:Nat)=>.int .u32 (n:Int)
def eB(v:AV)(l:List Nat):Prop:=(∀d∈l,d<4294967296)/\(v=.aK (cB l) l.length∨(l=[]/\(v=.aH∨v=.dw)))
section
variable{E:Env}
structure E3(E:Env):Prop where
 t66:∃i,E.ty 56=some i/\i.cD=.slice 177/\i.isAgg=false
 t126:∃i,E.ty 177=some i/\i.cD=.int .u32/\i.isAgg=false/\i.size=1/\i.zero=some [.int .u32 0]/\i.bytes=4
def dG(T:E3 E){v:AV}{l:List Nat}(h:eB v l){H:Hp}{aR:Nat}:bM E H aR .len [56] [v]=some (.int .i64 (l.length:Nat),[]):=by
 obtain⟨i,h1,h2,_⟩:=T.t66;obtain⟨cD,jA,jS,jB,jZ,dK⟩:=i;simp only at h2;subst h2;rcases h.2 with rfl|⟨rfl,rfl|rfl⟩<;>simp[bM,nC,h1]
def ji(T:E3 E){v:AV}{l:List Nat}(h:eB v l){k:IntKind}{z:Int}(h0:0<=z:=by omega)(h1:z<(l.length:Int):=by omega):cd E 56 v (.int k z)=some (.cS (cB l) z.toNat):=by
 obtain⟨i,e1,e2,_⟩:=T.t66;obtain⟨j,f1,f2,f3,f4,_⟩:=T.t126;rcases h.2 with rfl|⟨rfl,_⟩
 ·simp only[cd,e1,e2,f1,f4];rw[if_pos ⟨h0,h1⟩,aRH]
 ·simp at h1;omega
def oD(T:E3 E){l:List Nat}{H:Hp}{n:Nat}(h:n<l.length:=by omega):dU E H 177 (.cS (cB l) n)=some (.int .u32 (l.getD n 0:Nat)):=by obtain⟨j,f1,f2,f3,f4,_⟩:=T.t126;simp[dU,yL,eS,f1,f3,cB,aRt,h]
def ama(T:E3 E){v:AV}{l:List Nat}(h:eB v l){k:IntKind}{z:Int}(h0:0<=z)(h1:z<=(l.length:Int)):∃r,gg E 56 v none (some (.int k z))=some r/\eB r (l.take z.toNat):=by
 obtain⟨i,e1,e2,_⟩:=T.t66;obtain⟨j,f1,f2,f3,f4,_⟩:=T.t126;have hd:∀d∈l.take z.toNat,d<4294967296:=fun d hd=>h.1 d (aRC hd)
 rcases h.2 with rfl|⟨rfl,hv⟩
 ·have hb:fN l.length l.length none (some (.int k z))=some (0,z.toNat):=by simp only[fN,hiE,asNat,loE];rw[if_pos ⟨h0,h1⟩]
  by_cases hz:z.toNat=0
  ·refine⟨.dw,?_,hd,.inr ⟨by rw[hz];rfl,.inr rfl⟩⟩;simp only[gg,e1,e2,f1,hb];rw[if_pos hz.symm]
  ·refine⟨.aK (cB (l.take z.toNat)) (l.take z.toNat).length,?_,hd,.inl rfl⟩;simp only[gg,e1,e2,f1,hb,f4];rw[if_neg (fun e=>hz e.symm)]
   have:min z.toNat l.length=z.toNat:=by omega
   simp[cB,List.map_take,this]
 ·have hz:z=0:=by simp at h1;omega
  subst hz;refine⟨v,?_,by simp,.inr ⟨rfl,hv⟩⟩;rcases hv with rfl|rfl<;>simp[gg,e1,e2,f1,fN,hiE,asNat,loE]
end
def wrap_i64{n:Int}(h0: -9223372036854775808<=n:=by omega)(h1:n<=9223372036854775807:=by omega):aW .i64 n=n:=IntWalk.i64_in _ ⟨h0,h1⟩
def aaj:Code:=(match Tryz.f136.body with|some c=>c|none=>.skip)
def Qe:E0.fn 136=some {code:=aaj,ntmps:=21,results:=[.tmp 2],pure:=true,eD:=false}:=by kernel_rfl
def aeq{E:Env}{ops rest:List Oper}{ts:List AV}{H:Hp}{q:List AV->Hp->Prop}{d t i0 i2 t1:Nat}{p:String}{af:Array Edge}{ti:sk}(ht:E.ty t1=some ti){e:Nat}(hu:ti.cD=.slice e)(ha:ti.isAgg=false):
  dW E ops (⟨some d,.slice t1 (.tmp i0) none (some (.tmp i2)) none,t,p,af,none⟩::rest) ts H q=b9 (gg E t1 (gt ts i0) none (some (gt ts i2))) fun r=>dW E ops rest (ts.set d r) H q:=by
 rw[TM ht (by rw[hu,ha]) ha];rfl
def iG(l:List Nat):List Nat:=(l.reverse.dropWhile (·==0)).reverse
def ae3{E:Env}(T:E3 E){v:AV}{l:List Nat}(h:eB v l)(hlen:l.length<1000000000000){ts:List AV}{H:Hp}(hl:ts.length=21)(g0:gt ts 0=v){Q:Ex->List AV->Hp->Prop}
  (hQ:∀ts' r,gt ts' 2=r->eB r (iG l)->Q .ret ts' H):Cv E aaj ts H Q:=by
 obtain⟨i66,e1,e2,e3⟩:=T.t66;refine Cv.seq (Cv.run ?_);simp only[OB,b8];refine Cv.seq (Cv.block ?_);refine Cv.loop (fun k ts H'=>∃v l',k=l'.length/\eB v l'/\l'.length<=l.length/\iG l'=iG l/\ts.length=21/\gt ts 0=v/\H'=H) ?_ l.length _ _ ⟨v,l,rfl,h,aLt _,rfl,by simp[hl],by simp[aZ,g0],rfl⟩;clear hl g0 h v ts;rintro k ts H' ⟨v,l',rfl,h,hle,Na,hl,g0,rfl⟩;refine Cv.seq (Cv.seq (Cv.run ?_));have fin:l'=[]∨(∃d l0,l'=l0++[d]/\d≠0)->iG l'=l':=by
  rintro(rfl|⟨d,l0,rfl,hd⟩)
  ·rfl
  ·unfold iG;rw[aRw];simp[hd]
 by_cases h0:0<l'.length
 ·have hd:decide ((l'.length:Int)>0)=true:=bj;have hw:aW .i64 ((l'.length:Int)-1)=((l'.length:Int)-1):=wrap_i64;have qF:=ji T h (k:=.i64) (z:=(l'.length:Int)-1);have M9:((l'.length:Int)-1).toNat=l'.length-1:=by omega
  rw[M9]at qF;simp only[gr,mZ,BP,aep,AT,vj,qO,b8,aT,cM,gD,aN,aZ,aQx,DI,fw,pM,th,aRa,aRb,aP4,Fa,beq_self_eq_true,l8,zx,Mb,aa,ne_eq,ae,not_false_eq_true,bA,hl,g0,dG T h,hd,hw,qF,oD T (show l'.length-1<l'.length by omega)];refine Cv.cond (t:=((l'.getD (l'.length-1) 0:Nat):Int)==0) (by rw[aQ];simp only[aN,aQx,hl,aa]) ?_;obtain⟨l0,d,rfl⟩:∃l0 d,l'=l0++[d]:=⟨l'.dropLast,l'.getLast (by intro e;simp[e]at h0),by rw[aRz]⟩;have hg:(l0++[d]).getD ((l0++[d]).length-1) 0=d:=by simp[aRt]
  rw[hg];by_cases hz:d=0
  ·subst hz;have Ut:(((0:Nat):Int)==0)=true:=rfl;rw[Ut];simp only[if_true];refine Cv.skip ?_;refine Cv.block (Cv.run ?_);obtain⟨r,hr1,Ec⟩:=ama T h (k:=.i64) (z:=((l0++[0]).length:Int)-1) (by omega) (by omega);rw[M9]at Ec;simp only[gr,mu,mZ,AT,b8,aT,cM,aN,aZ,aQx,fw,l8,aa,ne_eq,ae,not_false_eq_true,hl,g0,dG T h,hw,aeq e1 e2 e3,hr1];refine⟨l0.length,by simp,r,l0,rfl,by simpa using Ec,by simp at hle;omega,?_,by simp[],by simp[],by first|rfl|trivial⟩;rw[<-Na];unfold iG;rw[aRw]
   simp
  ·have ej:(((d:Nat):Int)==0)=false:=by simp[hz]
   rw[ej];simp only[aLT,if_false];refine Cv.exit ?_;simp only[if_true];refine Cv.seq (Cv.run ?_);simp only[gr,mu,b8,aN,aZ,aQx,aa,ne_eq,ae,not_false_eq_true,hl,g0];refine Cv.ret (hQ _ v (by simp[aN,hl]) ?_);rw[<-Na,fin (.inr ⟨d,l0,rfl,hz⟩)];exact h
 ·have hd:decide ((l'.length:Int)>0)=false:=bh (by omega);have C0:l'=[]:=by cases l' with
   |nil=>rfl
   |cons a t=>simp at h0
  simp only[gr,mZ,BP,aep,AT,vj,qO,b8,aT,cM,eI,aN,aZ,aQx,AP,fw,pM,th,aRa,aRb,aP4,Fa,l8,zx,aa,ne_eq,ae,not_false_eq_true,bA,hl,g0,dG T h,hd,show(some false==some true)=false from rfl];refine Cv.cond (t:=false) (by rw[aQ];simp only[aN,aQx,hl,aa]) ?_;simp only[aLT,if_false];refine Cv.exit ?_;simp only[if_true];refine Cv.seq (Cv.run ?_);simp only[gr,mu,b8,aN,aZ,aQx,aa,ne_eq,ae,not_false_eq_true,hl,g0];refine Cv.ret (hQ _ v (by simp[aN,hl]) ?_);rw[<-Na,fin (.inl C0)];exact h
def val:List Nat->Nat
 |[]=>0
 |d::l=>d+4294967296*val l
def Norm(l:List Nat):Prop:=∀d l0,l=l0++[d]->d≠0
def mz(a b:List Nat):val (a++b)=val a+4294967296^a.length*val b:=by
 induction a with
 |nil=>simp[val]
 |cons d a ih=>simp only[aRk,val,ih,aL4,aRu];rw[aRe,Nat.add_assoc,Nat.mul_comm (4294967296^a.length) 4294967296,aRv]
def pU(l:List Nat):∃n,l=iG l++aLu n 0:=by
 unfold iG;have h:∀r:List Nat,∃n,r=aLu n 0++r.dropWhile (·==0):=by
  intro r;induction r with
  |nil=>exact⟨0,rfl⟩
  |cons d r ih=>
   by_cases hd:d=0
   ·obtain⟨n,hn⟩:=ih;refine⟨n+1,?_⟩;subst hd;simp only[List.dropWhile_cons,beq_self_eq_true,if_true,aRy,aRk];rw[<-hn]
   ·refine⟨0,?_⟩
    have:(d==0)=false:=by simpa using hd
    simp[this]
 obtain⟨n,hn⟩:=h l.reverse;refine⟨n,?_⟩
 have:=congrArg List.reverse hn
 rw[aRD,aRw,List.reverse_replicate]at this;exact this
def iT(l:List Nat):Norm (iG l):=by
 intro d l0 h;unfold iG at h;have h2:=congrArg List.reverse h;rw[aRD,aRw]at h2;simp only[List.reverse_cons,List.reverse_nil,aRd,List.singleton_append]at h2;intro hd
 have:=List.head?_dropWhile_not (fun x:Nat=>x==0) l.reverse
 rw[h2]at this;simp[hd]at this
def Gt(n:Nat):val (aLu n 0)=0:=by
 induction n with
 |zero=>rfl
 |succ n ih=>simp[aRy,val,ih]
def hJ(l:List Nat):val (iG l)=val l:=by
 obtain⟨n,hn⟩:=pU l
 have:=congrArg val hn
 rw[mz,Gt]at this;simpa using this.symm
def eA(v:AV)(z:Int):Prop:=∃(neg:Bool) (m:AV) (l:List Nat),v=.agg [.bool neg,m]/\eB m l/\Norm l/\(neg=true->l≠[])/\z=(if neg then-(val l:Int)else val l)
def oQ{l:List Nat}(h:∀d∈l,d<4294967296):val l<4294967296^l.length:=by
 induction l with
 |nil=>simp[val]
 |cons d l ih=>
  have h1:=ih fun x hx=>h x (by simp[hx])
  have h2:=h d (by simp);simp only[val,aL4,aRu]
  have:4294967296*(val l+1)<=4294967296^l.length*4294967296:=by rw[Nat.mul_comm];exact Nat.mul_le_mul_right _ h1
  omega
def Ak{l:List Nat}(hn:Norm l)(ej:l≠[]):4294967296^(l.length-1)<=val l:=by
 obtain⟨l0,d,rfl⟩:∃l0 d,l=l0++[d]:=⟨l.dropLast,l.getLast ej,by rw[aRz]⟩;have hd:=hn d l0 rfl;rw[mz];simp only[val,List.length_append,aL4,aQ9,aRF,Nat.add_zero,aL5,Nat.add_sub_cancel]
 have:4294967296^l0.length*1<=4294967296^l0.length*d:=aRE _ (by omega)
 omega
def qU{l:List Nat}{i:Nat}(h:i<l.length):val l=val (l.take i)+4294967296^i*(l.getD i 0+4294967296*val (l.drop (i+1))):=by
 have e:l=l.take i++l.drop i:=(List.take_append_drop i l).symm;have h1:(l.take i).length=i:=by simp;omega
 conv=>lhs;rw[e]
 rw[mz,h1,aRx h];simp[val,aRt,h]
def RC{a b:List Nat}(ha:∀d∈a,d<4294967296)(hl:a.length=b.length){i:Nat}(hi:i<a.length)(hd:a.drop (i+1)=b.drop (i+1))(eh:a.getD i 0<b.getD i 0):val a<val b:=by
 rw[qU hi,qU (show i<b.length by omega),hd];have h1:val (a.take i)<4294967296^i:=by
  have:=oQ (l:=a.take i) fun d hd=>ha d (aRC hd)
  rwa[show(a.take i).length=i by simp;omega]at this
 have h2:4294967296^i*(a.getD i 0+4294967296*val (b.drop (i+1))+1)<=4294967296^i*(b.getD i 0+4294967296*val (b.drop (i+1))):=aRE _ (by omega);rw[aRe,aRH]at h2;omega
def vD{a b:List Nat}(ha:∀d∈a,d<4294967296)(hb:Norm b)(h:a.length<b.length):val a<val b:=by have h1:=oQ ha;have h2:=Ak hb (by intro e;subst e;simp at h);have h3:4294967296^a.length<=4294967296^(b.length-1):=Nat.pow_le_pow_right (by omega) (by omega);omega
def mL(x y:Int):Int:=if x<y then-1 else if y<x then 1 else 0
def gW{E:Env}(h:Over E):E3 E:=by
 have h66:∃i,E0.ty 56=some i/\i.cD=.slice 177/\i.isAgg=false:=by
  obtain⟨i,hi⟩:∃i,E0.ty 56=some i:=aNb.1 (by kernel_rfl);have a1:(E0.ty 56).map (·.cD)=some (.slice 177):=by kernel_rfl
  have a2:(E0.ty 56).map (·.isAgg)=some false:=by kernel_rfl
  rw[hi]at a1 a2;exact⟨i,hi,by simpa using a1,by simpa using a2⟩
 have h126:∃i,E0.ty 177=some i/\i.cD=.int .u32/\i.isAgg=false/\i.size=1/\i.zero=some [.int .u32 0]/\i.bytes=4:=by
  obtain⟨i,hi⟩:∃i,E0.ty 177=some i:=aNb.1 (by kernel_rfl);have a1:(E0.ty 177).map (·.cD)=some (.int .u32):=by kernel_rfl
  have a2:(E0.ty 177).map (·.isAgg)=some false:=by kernel_rfl
  have a3:(E0.ty 177).map (·.size)=some 1:=by kernel_rfl
  have a4:(E0.ty 177).map (·.zero)=some (some [.int .u32 0]):=by kernel_rfl
  have a5:(E0.ty 177).map (·.bytes)=some 4:=by kernel_rfl
  rw[hi]at a1 a2 a3 a4 a5;exact⟨i,hi,by simpa using a1,by simpa using a2,by simpa using a3,by simpa using a4,by simpa using a5⟩
 exact⟨by rw[h.ty];exact h66,by rw[h.ty];exact h126⟩
def Zl:Code:=(match Tryz.f106.body with|some c=>c|none=>.skip)
def Jf:E0.fn 106=some {code:=Zl,ntmps:=41,results:=[.tmp 4],pure:=true,eD:=false}:=by kernel_rfl
def Zm{E:Env}(C:Ctx E){va vb:AV}{a b:List Nat}(ha:eB va a)(hb:eB vb b)(na:Norm a)(nb:Norm b)(la:a.length<1000000000000)(lb:b.length<1000000000000){ts:List AV}{H:Hp}(hl:ts.length=41)(g0:gt ts 0=va)(g1:gt ts 1=vb){Q:Ex->List AV->Hp->Prop}
  (hQ:∀ts',gt ts' 4=.int .i64 (mL (val a) (val b))->Q .ret ts' H):Cv E Zl ts H Q:=by
 have T:=gW C.toOver;refine Cv.seq (Cv.run ?_);simp only[mj,b8];refine Cv.seq (Cv.seq (Cv.run ?_));simp only[gr,yN,AT,b8,aT,cM,aN,aZ,aQx,fw,aa,ne_eq,ae,not_false_eq_true,Md,hl,g0,g1,dG T ha,dG T hb];refine Cv.cond (t:=((a.length:Int)!=(b.length:Int))) (by rw[aQ];simp only[aN,aQx,hl,aa]) ?_;by_cases hlen:a.length=b.length
 ·have h1:((a.length:Int)!=(b.length:Int))=false:=by simp[hlen]
  rw[h1];simp only[aLT,if_false];refine Cv.skip ?_;refine Cv.seq (Cv.seq (Cv.run ?_));have hw:aW .i64 ((a.length:Int)-1)=((a.length:Int)-1):=wrap_i64;simp only[gr,mu,mZ,AT,b8,aT,cM,aN,aZ,aQx,fw,l8,aa,ne_eq,ae,not_false_eq_true,hl,g0,dG T ha,hw];refine Cv.block (Cv.loop (fun k ts H'=>k<=a.length/\ts.length=41/\gt ts 0=va/\gt ts 1=vb/\gt ts 5=.int .i64 ((k:Int)-1)/\a.drop k=b.drop k/\H'=H) ?_ a.length _ _ ?_)
  rotate_left
  ·exact⟨aLt _,by simp[hl],by simp[aZ,g0],by simp[aZ,g1],by simp[aN,hl],by rw[aRJ,hlen,aRJ],rfl⟩
  clear hl g0 g1 ts;rintro k ts H' ⟨hk,hl,g0,g1,g5,Jm,rfl⟩;refine Cv.seq (Cv.seq (Cv.run ?_));simp only[gr,mZ,b8,aT,aN,aa,zw,hl,g5];refine Cv.cond (t:=decide ((k:Int)-1≥0)) (by rw[aQ];simp only[aN,aQx,hl,aa]) ?_;by_cases hk0:k=0
  ·have h2:decide ((k:Int)-1≥0)=false:=bh (by omega);rw[h2];simp only[aLT,if_false];refine Cv.exit ?_;simp only[if_true];refine Cv.seq (Cv.run ?_);simp only[mj,b8];refine Cv.ret (hQ _ ?_);rw[aN (by simp[hl])];subst hk0;simp only[aRj]at Jm;subst Jm;unfold mL;rw[if_neg (by omega),if_neg (by omega)]
  ·have h2:decide ((k:Int)-1≥0)=true:=bj;rw[h2];simp only[if_true];refine Cv.skip ?_;have sK:=ji T ha (k:=.i64) (z:=(k:Int)-1);have Qk:=ji T hb (k:=.i64) (z:=(k:Int)-1);have M9:((k:Int)-1).toNat=k-1:=by omega
   rw[M9]at sK Qk;have zZ:=fun H'=>oD T (l:=a) (H:=H') (n:=k-1)
   have LW:=fun H'=>oD T (l:=b) (H:=H') (n:=k-1)
   refine Cv.seq (Cv.block (Cv.seq (Cv.al1 rfl (by rw[C.pairs];rfl) ?_)));simp only[gr,yN,BP,aep,b8,aT,aN,aZ,aQx,aa,ne_eq,ae,not_false_eq_true,Md,hl,g0,g1,g5,sK,Qk,zZ,LW];refine Cv.cond (t:=(((a.getD (k-1) 0:Nat):Int)!=((b.getD (k-1) 0:Nat):Int))) (by rw[aQ];simp only[aN,aQx,hl,aa]) ?_;have hka:k-1<a.length:=by omega
   have oW:a.drop (k-1)=a.getD (k-1) 0::a.drop k:=by rw[aRx hka,show k-1+1=k by omega];simp[aRt,hka]
   have hkb:k-1<b.length:=by omega
   have Ir:b.drop (k-1)=b.getD (k-1) 0::b.drop k:=by rw[aRx hkb,show k-1+1=k by omega];simp[aRt,hkb]
   by_cases hd:a.getD (k-1) 0=b.getD (k-1) 0
   ·have h3:(((a.getD (k-1) 0:Nat):Int)!=((b.getD (k-1) 0:Nat):Int))=false:=by rw[hd];simp
    rw[h3];simp only[aLT,if_false];refine Cv.skip ?_;refine Cv.run ?_;have Bj:aW .i64 ((k:Int)-1-1)=((k:Int)-1-1):=wrap_i64;simp only[gr,mu,mZ,b8,aT,aN,aZ,aQx,l8,aa,ne_eq,ae,not_false_eq_true,hl,g5,Bj];refine⟨k-1,by omega,by omega,by simp[],by simp[g0],by simp[g1],?_,by rw[oW,Ir,hd,Jm],by first|rfl|trivial⟩
    first|(rw[aN (by simp[hl])];congr 1;omega)|(congr 1;omega)
   ·have h3:(((a.getD (k-1) 0:Nat):Int)!=((b.getD (k-1) 0:Nat):Int))=true:=by simp only[bne_iff_ne,ne_eq];omega
    rw[h3];simp only[if_true];refine Cv.seq (Cv.seq (Cv.al1 rfl (by rw[C.pairs];rfl) ?_));simp only[gr,yN,BP,aep,b8,aT,aN,aZ,aQx,fZ,aa,ne_eq,ae,not_false_eq_true,hl,g0,g1,g5,sK,Qk,zZ,LW];refine Cv.cond (t:=decide (((a.getD (k-1) 0:Nat):Int)<((b.getD (k-1) 0:Nat):Int))) (by rw[aQ];simp only[aN,aQx,hl,aa]) ?_;have hk1:k-1+1=k:=by omega
    by_cases eh:a.getD (k-1) 0<b.getD (k-1) 0
    ·have h4:decide (((a.getD (k-1) 0:Nat):Int)<((b.getD (k-1) 0:Nat):Int))=true:=bj;rw[h4];simp only[if_true];refine Cv.seq (Cv.run ?_);simp only[mj,b8];refine Cv.ret (hQ _ ?_);rw[aN (by simp[hl])]
     have:=RC ha.1 hlen hka (by rw[hk1];exact Jm) eh
     unfold mL;rw[if_pos (by omega)]
    ·have h4:decide (((a.getD (k-1) 0:Nat):Int)<((b.getD (k-1) 0:Nat):Int))=false:=bh (by omega);rw[h4];simp only[aLT,if_false];refine Cv.skip ?_;refine Cv.seq (Cv.run ?_);simp only[mj,b8];refine Cv.ret (hQ _ ?_);rw[aN (by simp[hl])]
     have:=RC hb.1 hlen.symm hkb (by rw[hk1];exact Jm.symm) (by omega)
     unfold mL;rw[if_neg (by omega),if_pos (by omega)]
 ·have h1:((a.length:Int)!=(b.length:Int))=true:=by simp;omega
  rw[h1];simp only[if_true];refine Cv.seq (Cv.seq (Cv.run ?_));simp only[gr,yN,AT,b8,aT,cM,aN,aZ,aQx,fw,fZ,aa,ne_eq,ae,not_false_eq_true,hl,g0,g1,dG T ha,dG T hb];refine Cv.cond (t:=decide ((a.length:Int)<(b.length:Int))) (by rw[aQ];simp only[aN,aQx,hl,aa]) ?_;by_cases eh:a.length<b.length
  ·have h2:decide ((a.length:Int)<(b.length:Int))=true:=bj;rw[h2];simp only[if_true];refine Cv.seq (Cv.run ?_);simp only[mj,b8];refine Cv.ret (hQ _ ?_)
   have:=vD ha.1 nb eh
   rw[aN (by simp[hl])];unfold mL;rw[if_pos (by omega)]
  ·have h2:decide ((a.length:Int)<(b.length:Int))=false:=bh (by omega);rw[h2];simp only[aLT,if_false];refine Cv.skip ?_;refine Cv.seq (Cv.run ?_);simp only[mj,b8];refine Cv.ret (hQ _ ?_)
   have:=vD hb.1 na (by omega)
   rw[aN (by simp[hl])];unfold mL;rw[if_neg (by omega),if_pos (by omega)]
def rG{E:Env}(C:Ctx E){va vb:AV}{a b:List Nat}(ha:eB va a)(hb:eB vb b)(na:Norm a)(nb:Norm b)(la:a.length<1000000000000:=by omega)(lb:b.length<1000000000000:=by omega):
  kC E 106 [va,vb] (.int .i64 (mL (val a) (val b))):=by
 refine⟨fun fi h=>?_,?_⟩
 ·rw[C.fn,Jf]at h;cases h;rfl
 ·refine PL (C.ov 106 _ (by decide)) (by rw[C.fn];exact Jf) rfl ?_;refine Zm C ha hb na nb la lb rfl rfl rfl fun ts' h4=>⟨fun id h=>(by cases h),[.int .i64 (mL (val a) (val b))],[],?_,rfl⟩
  show some [gt ts' 4]=_
  rw[h4]
def aO{v:AV}{l:List Nat}(h:eB v l):aU v=true:=by
 rcases h.2 with rfl|⟨_,rfl|rfl⟩
 ·simp only[aU]
 ·rfl
 ·rfl
def je{E:Env}(C:Ctx E){v:AV}{l:List Nat}(h:eB v l)(hlen:l.length<1000000000000:=by omega):∃r,kC E 136 [v] r/\eB r (iG l):=by
 have:∃r,eB r (iG l)/\∃n,call E n 136 [v]=some r:=by
  have key:Cv E aaj ([v]++aLu 20 bT) [] fun ex ts H=>∃r,eB r (iG l)/\(∀id,ex≠ .exit id)/\∃rs bs,fL H E ts [.tmp 2]=some rs/\bX H [gV rs]=some ([r],bs):=by
   refine ae3 (gW C.toOver) h hlen rfl rfl fun ts' r h2 hr=>⟨r,hr,fun id h=>(by cases h),[r],[],?_,?_⟩
   ·show some [gt ts' 2]=_
    rw[h2]
   ·unfold bX;rw[show aV [gV [r]]=true by simp[aV,gV,aO hr]];rfl
  obtain⟨n,ex,ts,H,h1,r,hr,h2⟩:=key;exact⟨r,hr,PL (C.ov 136 _ (by decide)) (by rw[C.fn];exact Qe) rfl ⟨n,ex,ts,H,h1,h2⟩⟩
 obtain⟨r,hr,n,hn⟩:=this;exact⟨r,⟨fun fi h=>(by rw[C.fn,Qe]at h;cases h;rfl),n,hn⟩,hr⟩
def avj{E:Env}(C:Ctx E):∃pl,fB E 58=some pl/\pl 0=some (0,1)/\pl 1=some (1,1):=by
 have h:fB E 58=fB E0 58:=by unfold fB;rw[C.ty]
 rw[h];have a:(fB E0 58).map (fun f=>(f 0,f 1))=some (some (0,1),some (1,1)):=by kernel_rfl
 cases hp:fB E0 58 with
 |none=>rw[hp]at a;cases a
 |some pl=>rw[hp]at a;simp only[aMi,Option.some.injEq,Prod.mk.injEq]at a;exact⟨pl,rfl,a.1,a.2⟩
def aak{E:Env}(C:Ctx E):∃i,E.ty 58=some i/\i.isAgg=true/\i.size=2/\i.zero=some [.bool false,.aH]:=by
 rw[C.ty];obtain⟨i,hi⟩:∃i,E0.ty 58=some i:=aNb.1 (by kernel_rfl);have a1:(E0.ty 58).map (·.isAgg)=some true:=by kernel_rfl
 have a2:(E0.ty 58).map (·.size)=some 2:=by kernel_rfl
 have a3:(E0.ty 58).map (·.zero)=some (some [.bool false,.aH]):=by kernel_rfl
 rw[hi]at a1 a2 a3;exact⟨i,hi,by simpa using a1,by simpa using a2,by simpa using a3⟩
def bB{v:AV}{l:List Nat}(h:eB v l):v.cells=[v]/\cN v=true:=by
 rcases h.2 with rfl|⟨_,rfl|rfl⟩<;>exact⟨rfl,rfl⟩
def MI{pl:Nat->Option (Nat×Nat)}(p0:pl 0=some (0,1))(p1:pl 1=some (1,1)){b:Bool}{v:AV}{l:List Nat}(h:eB v l):fP pl [.bool false,.aH] [(0,.bool b),(1,v)]=some [.bool b,v]:=by
 simp[fP,p0,p1,AV.cells]
 have:=(bB h).1
 unfold AV.cells at this;simp[this]
def oV{E:Env}(C:Ctx E):ek E 58=some (.agg [.bool false,.aH]):=by obtain⟨i,h1,h2,_,h3⟩:=aak C;simp[ek,h1,h2,h3]
def Rw{E:Env}(C:Ctx E){H:Hp}{b:Nat}{c0 c1 x y:AV}(hb:H[b]?=some (.cells .live [c0,c1]))(hx:cN x=true)(hy:cN y=true):fh E H 58 (.bK b 0) (.agg [x,y])=some [(b,.cells .live [x,y])]:=by obtain⟨i,h1,h2,h4,h3⟩:=aak C;simp[fh,h1,hb,h4,AV.cells,hx,hy,dA]
def aln{E:Env}(C:Ctx E){H:Hp}{b:Nat}{x y:AV}(hb:H[b]?=some (.cells .live [x,y])):dU E H 58 (.bK b 0)=some (.agg [x,y]):=by obtain⟨i,h1,h2,h4,h3⟩:=aak C;simp[dU,yL,hb,eS,h1,h2,h4]
def signedC:Code:=(match Tryz.f104.body with|some c=>c|none=>.skip)
def Si:E0.fn 104=some {code:=signedC,ntmps:=15,results:=[.cell 4 58],pure:=true,eD:=false}:=by kernel_rfl
def iD{E:Env}(C:Ctx E){m:AV}{l:List Nat}(h:eB m l)(hlen:l.length<1000000000000)(neg:Bool):
  ∃r,kC E 104 [.bool neg,m] r/\eA r (if neg then-(val l:Int)else val l):=by
 refine Ch (C.ov 104 _ (by decide)) (by rw[C.fn];exact Si) rfl ?_;have T:=gW C.toOver;show Cv E signedC ([.bool neg,m]++aLu 13 bT) [] _
 generalize xq:[AV.bool neg,m]++aLu 13 bT=ts;have hl:ts.length=15:=by subst xq;rfl
 have g0:gt ts 0=.bool neg:=by subst xq;rfl
 have g1:gt ts 1=m:=by subst xq;rfl
 clear xq;obtain⟨r,hr,Ee⟩:=je C h hlen;obtain⟨pl,hp,p0,p1⟩:=avj C;obtain⟨i68,z1,_,_,z2⟩:=aak C;have hz:(E.ty 58).bind (·.zero)=some [.bool false,.aH]:=by rw[z1];exact z2
 refine Cv.seq (Cv.run ?_);simp only[b8,aT,ne_eq,ZM,oV C];rw[show([]:Hp).length=0 from rfl,show(cF.bJ [(0,cE.cells qW.live (AV.agg [AV.bool false,AV.aH]).cells)]).app []=[.cells .live [.bool false,.aH]]from rfl];refine Cv.seq (Cv.run ?_);simp only[gr,aZ,ne_eq,ae,not_false_eq_true,g1];refine alW (al:=[m]) (by simp only[kr,aQ,aN,aQx,hl,aa]) (by simp[aV,aO h]) hr ?_;simp only[mu,b8,aN,aQx,aa,hl];refine Cv.seq (Cv.run ?_);have eh:(iG l).length<1000000000000:=by
  obtain⟨n,hn⟩:=pU l
  have:=congrArg List.length hn
  simp at this;omega
 have fin:∀(b:Bool) (ts':List AV),b=(neg&&decide (0<(iG l).length))->gt ts' 4=.bK 0 0->(∀id,Ex.ret≠ .exit id)/\∃rs r' bs,fL [.cells .live [.bool b,r]] E ts' [.cell 4 58]=some rs/\bX [.cells .live [.bool b,r]] [gV rs]=some ([r'],bs)/\eA r' (if neg then-(val l:Int)else val l):=by
  intro b ts' hb h4;refine⟨fun id h=>(by cases h),[.agg [.bool b,r]],.agg [.bool b,r],[],?_,Jg (by simp[aU,aV,gV,aO Ee]),b,r,iG l,rfl,Ee,iT l,?_,?_⟩
  ·have h4':ts'[4]?.getD bT=.bK 0 0:=h4;simp only[fL,h4',aln C (H:=[.cells .live [.bool b,r]]) (b:=0) (x:=.bool b) (y:=r) rfl]
  ·intro mP C0;rw[hb,C0]at mP;simp at mP
  ·rw[hJ,hb];cases neg with
   |false=>simp
   |true=>
    by_cases h0:0<(iG l).length
    ·simp[h0]
    ·have C0:iG l=[]:=by cases ht:iG l with
      |nil=>rfl
      |cons a t=>rw[ht]at h0;simp at h0
     have hv:=hJ l;rw[C0]at hv;simp only[val]at hv;simp[h0,<-hv]
 cases neg with
 |true=>
  have hd:decide (((iG l).length:Int)>0)=decide (0<(iG l).length):=by congr 1;simp
  simp only[gr,mZ,AT,vj,qO,aT,cM,gD,aN,aZ,aQx,DI,fw,pM,th,aRa,aRb,aP4,Fa,beq_self_eq_true,zx,aa,ne_eq,ae,not_false_eq_true,bA,hl,g0,dG T Ee,hd];rw[Rg hp hz (vs:=[(0,.bool (decide (0<(iG l).length))),(1,r)]) (by simp only[sJ,aQ,aN,aZ,aQx,hl,aa,ne_eq,ae,not_false_eq_true]) (MI p0 p1 Ee)];simp only[b8,de,aN,aZ,aQx,aa,ne_eq,ae,not_false_eq_true,Rh,hl,Rw C (H:=[.cells .live [.bool false,.aH]]) (b:=0) (c0:=.bool false) (c1:=.aH) rfl (show cN (.bool (decide (0<(iG l).length)))=true from rfl) (bB Ee).2];refine Cv.ret (fin (decide (0<(iG l).length)) _ (by simp) (by simp[aN,aZ,hl]))
 |false=>
  simp only[gr,mZ,AT,vj,qO,aT,eI,aN,aZ,aQx,AP,pM,th,aRa,aRb,aP4,Fa,aa,ne_eq,ae,not_false_eq_true,bA,hl,g0,show(some false==some true)=false from rfl];rw[Rg hp hz (vs:=[(0,.bool false),(1,r)]) (by simp only[sJ,aQ,aN,aZ,aQx,hl,aa,ne_eq,ae,not_false_eq_true]) (MI p0 p1 Ee)];simp only[b8,de,aN,aZ,aQx,aa,ne_eq,ae,not_false_eq_true,Rh,hl,Rw C (H:=[.cells .live [.bool false,.aH]]) (b:=0) (c0:=.bool false) (c1:=.aH) rfl (show cN (.bool false)=true from rfl) (bB Ee).2];refine Cv.ret (fin false _ (by simp) (by simp[aN,aZ,hl]))
def cellAt:Hp->Nat->Nat->Option AV
 |.cells .live cs::_,0,o=>cs[o]?
 |.cells .ro cs::_,0,o=>cs[o]?
 |_::H,b+1,o=>cellAt H b o
 |_,_,_=>none
def dZ{cs:List AV}{H:Hp}{o:Nat}:cellAt (.cells .live cs::H) 0 o=cs[o]?:=rfl
def V4{cs:List AV}{H:Hp}{o:Nat}:cellAt (.cells .ro cs::H) 0 o=cs[o]?:=rfl
def iV{x:cE}{H:Hp}{b o:Nat}:cellAt (x::H) (b+1) o=cellAt H b o:=by cases x<;>(try rfl);rename_i s cs;cases s<;>rfl
def bY:∀{H:Hp} {b o:Nat},cellAt H b o=(match H[b]? with|some (.cells st cs)=>if st=.dead then none else cs[o]?|_=>none)
 |[],b,o=>by cases b<;>rfl
 |x::H,b+1,o=>by rw[iV,bY];simp
 |x::H,0,o=>by
  cases x with
  |cells st cs=>cases st<;>rfl
  |_=>rfl
def One(E:Env)(t:Nat):Prop:=∃i,E.ty t=some i/\i.isAgg=false/\i.size=1
def gC{E:Env}{t:Nat}(h:One E t){H:Hp}{b o:Nat}:dU E H t (.bK b o)=cellAt H b o:=by
 obtain⟨i,h1,h2,_⟩:=h;rw[bY];unfold dU yL;simp only;cases H[b]? with
 |none=>rfl
 |some x=>
  cases x with
  |cells st cs=>
   simp only;by_cases hd:st=.dead
   ·simp only[hd,if_true]
   ·simp only[hd,if_false,eS,h1,h2];rfl
  |_=>rfl
def Qv(E:Env)(t:Nat):Bool:=match E.ty t with
 |some i=>!i.isAgg&&i.size==1
 |none=>false
def alF{E:Env}{t:Nat}(h:Qv E t=true):One E t:=by
 unfold Qv at h;cases hi:E.ty t with
 |none=>rw[hi]at h;cases h
 |some i=>
  rw[hi]at h;simp only[aM6,Bool.not_eq_true',beq_iff_eq]at h;exact⟨i,hi,h.1,h.2⟩
def Q7{E:Env}(C:Ctx E){t:Nat}(h:Qv E0 t=true:=by kernel_rfl):One E t:=by refine alF ?_;unfold Qv at h⊢;rw[C.ty];exact h
def EU{E:Env}(C:Ctx E):One E 4:=Q7 C
def auY{E:Env}(C:Ctx E):One E 3:=Q7 C
def v8{E:Env}(C:Ctx E):One E 56:=Q7 C
def Nj(E:Env)(t n:Nat):Bool:=match E.ty t with
 |some i=>i.isAgg&&i.size==n
 |none=>false
def an6{E:Env}(C:Ctx E){t n:Nat}(h:Nj E0 t n=true):Nj E t n=true:=by unfold Nj at h⊢;rw[C.ty];exact h
def fE(n:Nat):Hp->Nat->Nat->Option AV
 |.cells .live cs::_,0,o=>if o+n<=cs.length then some (.agg ((cs.drop o).take n))else none
 |.cells .ro cs::_,0,o=>if o+n<=cs.length then some (.agg ((cs.drop o).take n))else none
 |_::H,b+1,o=>fE n H b o
 |_,_,_=>none
def kJ{n:Nat}{cs:List AV}{H:Hp}{o:Nat}:fE n (.cells .live cs::H) 0 o=if o+n<=cs.length then some (.agg ((cs.drop o).take n))else none:=rfl
def abk{n:Nat}{cs:List AV}{H:Hp}{o:Nat}:fE n (.cells .ro cs::H) 0 o=if o+n<=cs.length then some (.agg ((cs.drop o).take n))else none:=rfl
def nN{n:Nat}{x:cE}{H:Hp}{b o:Nat}:fE n (x::H) (b+1) o=fE n H b o:=by cases x<;>(try rfl);rename_i s cs;cases s<;>rfl
def dY{n:Nat}:∀{H:Hp} {b o:Nat},fE n H b o=(match H[b]? with|some (.cells st cs)=>if st=.dead then none else if o+n<=cs.length then some (.agg ((cs.drop o).take n))else none|_=>none)
 |[],b,o=>by cases b<;>rfl
 |x::H,b+1,o=>by rw[nN,dY];simp
 |x::H,0,o=>by
  cases x with
  |cells st cs=>cases st<;>rfl
  |_=>rfl
def nB{E:Env}{t n:Nat}(h:Nj E t n=true){H:Hp}{b o:Nat}:dU E H t (.bK b o)=fE n H b o:=by
 unfold Nj at h;cases hi:E.ty t with
 |none=>rw[hi]at h;cases h
 |some i=>
  rw[hi]at h;simp only[aM6,beq_iff_eq]at h;obtain⟨h1,rfl⟩:=h;rw[dY];unfold dU yL;simp only;cases H[b]? with
  |none=>rfl
  |some x=>
   cases x with
   |cells st cs=>
    simp only;by_cases hd:st=.dead
    ·simp only[hd,if_true]
    ·simp only[hd,if_false,eS,hi,h1,if_true]
   |_=>rfl
def iZ(n:Nat)(xs:List AV):Hp->Nat->Nat->Option cE
 |.cells .live cs::_,0,o=>if(xs.length==n&&(decide (o+n<=cs.length)&&xs.all cN))=true then some (.cells .live (dA cs o xs))else none
 |_::H,b+1,o=>iZ n xs H b o
 |_,_,_=>none
def kq{n:Nat}{xs cs:List AV}{H:Hp}{o:Nat}:iZ n xs (.cells .live cs::H) 0 o=if(xs.length==n&&(decide (o+n<=cs.length)&&xs.all cN))=true then some (.cells .live (dA cs o xs))else none:=rfl
def nF{n:Nat}{xs:List AV}{x:cE}{H:Hp}{b o:Nat}:iZ n xs (x::H) (b+1) o=iZ n xs H b o:=by cases x<;>(try rfl);rename_i s cs;cases s<;>rfl
def eT{n:Nat}{xs:List AV}:∀{H:Hp} {b o:Nat},iZ n xs H b o=(match H[b]? with|some (.cells .live cs)=>if(xs.length==n&&(decide (o+n<=cs.length)&&xs.all cN))=true then some (.cells .live (dA cs o xs))else none|_=>none)
 |[],b,o=>by cases b<;>rfl
 |x::H,b+1,o=>by rw[nF,eT];simp
 |x::H,0,o=>by
  cases x with
  |cells st cs=>cases st<;>rfl
  |_=>rfl
def JB(E:Env)(t n:Nat):Bool:=match E.ty t with
 |some i=>i.size==n
 |none=>false
def avF{E:Env}(C:Ctx E){t n:Nat}(h:JB E0 t n=true:=by kernel_rfl):JB E t n=true:=by unfold JB at h⊢;rw[C.ty];exact h
def jD{E:Env}{t n:Nat}(h:JB E t n=true){H:Hp}{b o:Nat}{v:AV}:fh E H t (.bK b o) v=(iZ n v.cells H b o).map fun x=>[(b,x)]:=by
 unfold JB at h;cases hi:E.ty t with
 |none=>rw[hi]at h;cases h
 |some i=>
  rw[hi]at h;simp only[beq_iff_eq]at h;subst h;rw[eT];unfold fh;simp only[hi];cases H[b]? with
  |none=>rfl
  |some x=>
   cases x with
   |cells st cs=>
    cases st with
    |live=>
     simp only;by_cases h1:v.cells.length=i.size<;>by_cases h2:o+i.size<=cs.length<;>cases h3:v.cells.all cN<;>simp[h1,h2]<;>omega
    |_=>rfl
   |_=>rfl
def cu{b:Nat}{x:cE}{H:Hp}:(cF.bJ [(b,x)]).app H=cO H b x:=rfl
def jM{b:Nat}{x y:cE}{H:Hp}:cO (y::H) (b+1) x=y::cO H b x:=by
 unfold cO;simp only[aL4,Nat.add_lt_add_iff_right,List.set_cons_succ,aRk]
 split<;>rfl
def eJ{x y:cE}{H:Hp}:cO (y::H) 0 x=x::H:=by
 unfold cO
 simp
def avD:(some true==some true)=true:=rfl
def ahe:(some false==some true)=false:=rfl
def avC:(some true==some false)=false:=rfl
def avB:(some false==some false)=true:=rfl
def fW{cs xs:List AV}{o:Nat}:dA cs o xs=cs.take o++xs++cs.drop (o+xs.length):=rfl
def B6{E:Env}(C:Ctx E):Nj E 58 2=true:=an6 C (by kernel_rfl)
def DX{E:Env}(C:Ctx E):JB E 58 2=true:=avF C
def PK{E:Env}(C:Ctx E){b:Bool}{v:AV}{l:List Nat}(h:eB v l):eN E 58 [(0,.bool b),(1,v)]=some (.agg [.bool b,v]):=by obtain⟨pl,hp,p0,p1⟩:=avj C;obtain⟨i68,z1,_,_,z2⟩:=aak C;unfold eN;rw[hp,show(E.ty 58).bind (·.zero)=some [.bool false,.aH]by rw[z1];exact z2];simp only[MI p0 p1 h,aMi]
def isBool(E:Env)(t:Nat):Bool:=match E.ty t with
 |some i=>(match i.cD with|.bool=>true|_=>false)
 |none=>false
def Vg{E:Env}(C:Ctx E){t:Nat}(h:isBool E0 t=true:=by kernel_rfl):isBool E t=true:=by unfold isBool at h⊢;rw[C.ty];exact h
def PZ{E:Env}{t n:Nat}(h:isBool E t=true){a b:Bool}:nP E (n+1) t (.bool a) (.bool b)=some (a==b):=by
 unfold isBool at h;cases hi:E.ty t with
 |none=>rw[hi]at h;cases h
 |some i=>
  rw[hi]at h;obtain⟨cD,jA,jS,jB,jZ,dK⟩:=i;cases cD<;>first|(cases h;done)|simp[nP,hi]
def pI{E:Env}{c:Bool}{t:Nat}(h:isBool E t=true){a b:Bool}:cp E c .neq t (.bool a) (.bool b)=some (.bool (a !=b)):=by
 simp only[cp,cp.sa,aP4,if_true,PZ h,aMi];cases a<;>cases b<;>rfl
def GC{E:Env}{c:Bool}{t:Nat}(h:isBool E t=true){a b:Bool}:cp E c .eql t (.bool a) (.bool b)=some (.bool (a==b)):=by simp only[cp,cp.sa,aP4,if_true,PZ h,aMi]
def Fg{E:Env}(C:Ctx E):isBool E 4=true:=Vg C
def Dw{b:Bool}:cN (.bool b)=true:=rfl
def aqR{E:Env}(C:Ctx E){b o:Nat}:cQ E 58 (.bK b o) 0=some (.bK b o)/\cQ E 58 (.bK b o) 1=some (.bK b (o+1)):=by
 have h:∀f,cQ E 58 (.bK b o) f=(cQ E0 58 (.bK 0 0) f).bind fun v=>match v with|.bK _ k=>some (.bK b (o+k))|_=>none:=by
  intro f;unfold cQ;rw[C.ty];cases E0.ty 58 with
  |none=>rfl
  |some i=>
   obtain⟨cD,jA,jS,jB,jZ,dK⟩:=i;cases cD<;>try rfl
   rename_i fs;simp only;cases fs[f]? with
   |none=>rfl
   |some fd=>
    simp only;cases E0.ty fd.type with
    |none=>rfl
    |some fi=>
     simp only;by_cases hz:fi.size=0
     ·simp only[hz,if_true];rfl
     ·simp only[hz,if_false,aL5];rfl
 rw[h 0,h 1,show cQ E0 58 (.bK 0 0) 0=some (.bK 0 0)by kernel_rfl,show cQ E0 58 (.bK 0 0) 1=some (.bK 0 1)by kernel_rfl];exact⟨rfl,rfl⟩
def p8{E:Env}(C:Ctx E){b o:Nat}:cQ E 58 (.bK b o) 0=some (.bK b o):=(aqR C).1
def p9{E:Env}(C:Ctx E){b o:Nat}:cQ E 58 (.bK b o) 1=some (.bK b (o+1)):=(aqR C).2
def fk{l:List AV}:(AV.agg l).cells=l:=rfl
def Rq(z:Int):Int:=if z=0 then 0 else if z<0 then-1 else 1
def BS{l:List Nat}(hn:Norm l)(ej:l≠[]):0<val l:=by
 have:=Ak hn ej
 have h2:0<4294967296^(l.length-1):=Nat.pow_pos (by omega);omega
def Fit(z:Int):Prop:=∃n,n<10000000000/\z.natAbs<4294967296^n
def uI{l:List Nat}{z:Int}(hn:Norm l)(hz:z.natAbs=val l)(h:Fit z):l.length<10000000001:=by
 obtain⟨n,h1,h2⟩:=h;by_cases he:l=[]
 ·subst he;simp
 ·have h3:=Ak hn he;have h4:l.length-1<n:=by
   have:4294967296^(l.length-1)<4294967296^n:=by omega
   exact(Nat.pow_lt_pow_iff_right (by omega)).1 this
  omega
def nu{b:Bool}{n:Nat}:(if b=true then-(n:Int)else(n:Int)).natAbs=n:=by cases b<;>simp
def Z2:Code:=(match Tryz.f101.body with|some c=>c|none=>.skip)
def acT:E0.fn 101=some {code:=Z2,ntmps:=11,results:=[.tmp 2],pure:=true,eD:=false}:=by kernel_rfl
def jY{E:Env}(C:Ctx E){v:AV}{z:Int}(h:eA v z):aP E 101 [v]=some (.int .i64 (Rq z)):=by
 suffices hh:∃r,aP E 101 [v]=some r/\r=.int .i64 (Rq z)by obtain⟨r,h1,rfl⟩:=hh;exact h1
 obtain⟨neg,m,l,rfl,hm,hn,o9,rfl⟩:=h;refine fn1 (C.ov 101 _ (by decide)) (by rw[C.fn];exact acT) rfl (by decide) ?_;intro ts hl g0;have T:=gW C.toOver;show W E Z2 ts [] _
 unfold Z2;simp only[Tryz.f101,eZ,nH,fu,eo,eY,cP,dX,BZ,fj,sO,dE,jf,jx,gK,rO,tY,cU,Az,fU,fQ,CS,dP,b8,aT,cM,bR,dd,aQ,dh,dO,gA,cG,fF,mH,aV,aU,aRf,nO,bA,aN,aZ,aQx,aRa,aRb,Mb,aa,ne_eq,ae,not_false_eq_true,fk,aRd,aL4,aQ9,aL5,bC,aRc,hl,g0,p8 C,p9 C,gC (EU C),gC (v8 C),dZ,dG T hm];by_cases hz:l=[]
 ·subst hz;cases neg
  ·rfl
  ·exact absurd rfl (o9 rfl)
 ·have h0:((l.length:Int)==0)=false:=by
   cases l with
   |nil=>exact absurd rfl hz
   |cons a t=>simp;omega
  have hv:=BS hn hz;rw[h0];unfold Rq;cases neg
  ·simp only[aLT,if_false];rw[if_neg (by omega),if_neg (by omega)]
  ·simp only[aLT,if_false,if_true];rw[if_neg (by omega),if_pos (by omega)]
def alv:Code:=(match Tryz.f108.body with|some c=>c|none=>.skip)
def ajM:E0.fn 108=some {code:=alv,ntmps:=15,results:=[.cell 2 58],pure:=true,eD:=false}:=by kernel_rfl
def Dt{E:Env}(C:Ctx E){v:AV}{z:Int}(h:eA v z):∃r,aP E 108 [v]=some r/\eA r (-z):=by
 obtain⟨neg,m,l,rfl,hm,hn,o9,rfl⟩:=h;refine fn1 (C.ov 108 _ (by decide)) (by rw[C.fn];exact ajM) rfl (by decide) ?_;intro ts hl g0;have T:=gW C.toOver;show W E alv ts [] _
 unfold alv;have key:∀b:Bool,b=(!neg&&decide ((l.length:Int)>0))->eA (.agg [.bool b,m]) (-(if neg=true then-(val l:Int)else val l)):=by
  intro b hb;refine⟨b,m,l,rfl,hm,hn,?_,?_⟩
  ·intro h1 h2;subst h2;simp[hb]at h1
  ·by_cases hz:l=[]
   ·subst hz;cases neg<;>cases b<;>simp[val]
   ·have:0<l.length:=by cases l with
     |nil=>exact absurd rfl hz
     |cons a t=>simp
    have h1:decide ((l.length:Int)>0)=true:=bj;rw[h1,aRf]at hb;subst hb;cases neg<;>simp
 cases neg
 ·simp only[Tryz.f108,↓reduceIte,nH,fu,cP,dX,jf,jx,gK,jN,tY,eO,W9,mD,Az,fU,eQ,fQ,Sj,CS,Qf,dP,qO,b8,aT,cM,de,gD,bR,fM,dd,aQ,dh,Cy,dO,gA,CB,CA,cG,kM,Rd,fF,mH,aV,aU,aRf,aRm,aRo,nO,bA,aN,aZ,aQx,pM,th,aRa,aRb,aP4,Fa,beq_self_eq_true,zx,OZ,aa,ah,ne_eq,ae,not_false_eq_true,fk,aRd,aRk,aL4,aQ9,aL5,bC,aRc,dZ,kJ,nN,kq,nF,cu,jM,eJ,fW,Dw,aMi,aPZ,aRr,aRg,aRn,aRh,aRj,aRp,aRl,aLt,decide_true,aRq,hl,g0,p8 C,p9 C,gC (EU C),gC (v8 C),dG T hm,oV C,Bool.not_false,nB (B6 C),jD (DX C),PK C hm,(bB hm).2,aO hm];exact key _ rfl
 ·simp only[Tryz.f108,↓reduceIte,nH,fu,cP,dX,jf,jx,gK,jN,tY,eO,W9,mD,Az,fU,eQ,fQ,Sj,CS,Qf,dP,qO,b8,aT,cM,de,eI,bR,fM,dd,aQ,dh,Cy,dO,gA,CB,CA,cG,kM,Rc,fF,mH,aV,aU,aRf,aRm,aRo,nO,bA,aN,aZ,aQx,pM,th,aRa,aRb,aP4,Fa,beq_self_eq_true,zx,OZ,aa,ah,ne_eq,ae,not_false_eq_true,fk,aRd,aRk,aL4,aQ9,aL5,bC,aRc,dZ,kJ,nN,kq,nF,cu,jM,eJ,ahe,fW,Dw,aMi,aPZ,aRr,aRg,aRn,aRh,aRj,aRp,aRl,aLt,decide_true,aRq,hl,g0,p8 C,p9 C,gC (EU C),gC (v8 C),dG T hm,oV C,Bool.not_true,nB (B6 C),jD (DX C),PK C hm,(bB hm).2,aO hm];exact key _ rfl
def Cm:Code:=(match Tryz.f102.body with|some c=>c|none=>.skip)
def MN:E0.fn 102=some {code:=Cm,ntmps:=26,results:=[.tmp 4],pure:=true,eD:=false}:=by kernel_rfl
def iK{E:Env}(C:Ctx E){v w:AV}{x y:Int}(h:eA v x)(k:eA w y)(fx:Fit x)(fy:Fit y):aP E 102 [v,w]=some (.int .i64 (mL x y)):=by
 suffices hh:∃r,aP E 102 [v,w]=some r/\r=.int .i64 (mL x y)by obtain⟨r,h1,rfl⟩:=hh;exact h1
 obtain⟨na,m,a,rfl,hm,hn,o9,rfl⟩:=h;obtain⟨nb,m',b,rfl,ky,xk,Jo,rfl⟩:=k;refine fn2 (C.ov 102 _ (by decide)) (by rw[C.fn];exact MN) rfl (by decide) ?_;intro ts hl g0 g1;have T:=gW C.toOver;show W E Cm ts [] _
 unfold Cm;have la:=uI hn nu fx;have lb:=uI xk nu fy;have o1:=dB (rG C hm ky hn xk);have o2:=dB (rG C ky hm xk hn);simp only[Tryz.f102,eZ,nH,fu,eo,eY,cP,dX,BZ,fj,sO,dE,jf,jx,gK,rO,tY,cU,Az,fU,fQ,CS,oz,b8,aT,bR,dd,k9,aQ,dh,lA,dO,gA,cG,fF,mH,aV,aU,aRf,aRm,sY,bA,aN,aZ,aQx,aRa,aRb,aa,ne_eq,ae,not_false_eq_true,fk,aRd,aRk,aL4,aQ9,aL5,bC,aRi,dZ,iV,hl,g0,g1,p8 C,p9 C,gC (EU C),gC (v8 C),aO hm,aO ky,o1,o2,pI (Fg C)];have pa:na=true->0<val a:=fun h=>BS hn (o9 h)
 have pb:nb=true->0<val b:=fun h=>BS xk (Jo h)
 unfold mL;cases na<;>cases nb<;>simp only[bne_self_eq_false,aLT,if_false,if_true,Bool.false_bne,Bool.bne_false,AV.int.injEq,true_and]
 ·have:=pb rfl;repeat' split<;>first|rfl|omega
 ·have:=pa rfl;repeat' split<;>first|rfl|omega
 ·repeat' split<;>first|rfl|omega
def zW{E:Env}(C:Ctx E){t:Nat}{k:IntKind}(h:gk E0 t=some k:=by kernel_rfl):gk E t=some k:=by unfold gk at h⊢;rw[C.ty];exact h
def ec{E:Env}{ops rest:List Oper}{ts:List AV}{H:Hp}{q:List AV->Hp->Prop}{d:Option Nat}{t:Nat}{p:String}{af:Array Edge}{s1 d1:Nat}{k0 k':IntKind}{x:Operand}(hs:gk E s1=some k0)(hd:gk E d1=some k'):
  dW E ops (⟨d,.convert s1 d1 x,t,p,af,none⟩::rest) ts H q=b9 (bU ts x) fun a=>b9 (toK k' a) fun v=>dW E ops rest (bA d v ts) H q:=by
 rw[nK rfl (by intro c h;cases h)];simp only[dH];unfold gk at hs hd;cases h1:E.ty s1 with
 |none=>rw[h1]at hs;cases hs
 |some si=>
  cases h2:E.ty d1 with
  |none=>rw[h2]at hd;cases hd
  |some di=>
   rw[h1]at hs;rw[h2]at hd;obtain⟨cD,jA,jS,jB,jZ,dK⟩:=si;obtain⟨aam,X6,ahf,Vj,ahq,af7⟩:=di;cases cD<;>first|(cases hs;done)|skip
   cases aam<;>first|(cases hd;done)|skip
   simp only[Option.some.injEq]at hd;subst hd;cases bU ts x with
   |none=>rfl
   |some v=>cases v<;>simp[Cn,h1,h2,toK,b9,Ek,nO]
def qx{E:Env}(C:Ctx E):gk E 177=some .u32/\gk E 178=some .u64/\gk E 2=some .i64/\gk E 3=some .i64:=
 ⟨zW C,zW C,zW C,zW C⟩
def alA{E:Env}(C:Ctx E):One E 177:=Q7 C
def sj{E:Env}(C:Ctx E):JB E 177 1=true:=avF C
def Rj{n:Nat}:gJ [.int .u32 0] n=cB (aLu n 0):=by
 induction n with
 |zero=>rfl
 |succ n ih=>
  rw[aRy];show _=AV.int .u32 0::cB (aLu n 0)
  rw[<-ih];rfl
def Y0{E:Env}(C:Ctx E){aR:Nat}{k k':IntKind}{n:Nat}(h:n<100000000000):fp E aR 56 (.int k (n:Int)) (.int k' (n:Int))=some (.aI aR 0 n 1 n,[(aR,.cells .live (cB (aLu n 0)))]):=by have T:=gW C.toOver;obtain⟨i,e1,e2,e3⟩:=T.t66;obtain⟨j,f1,f2,f3,f4,f5,f6⟩:=T.t126;obtain⟨cD,jA,jS,jB,jZ,dK⟩:=i;simp only at e2;subst e2;simp only[fp,e1,f1,f5,f6,f4];rw[if_pos ⟨by omega,Int.le_refl _,by unfold fH;simp only[aRs];omega,by omega,rfl,by omega⟩];simp[Rj]
def JD{E:Env}(C:Ctx E){b n:Nat}{k:IntKind}{z:Int}(h0:0<=z:=by omega)(h1:z<(n:Int):=by omega):cd E 56 (.aI b 0 n 1 n) (.int k z)=some (.bK b z.toNat):=by
 have T:=gW C.toOver;obtain⟨i,e1,e2,_⟩:=T.t66;obtain⟨j,f1,f2,f3,f4,_⟩:=T.t126;simp only[cd,e1,e2,f1,f4];by_cases hz:0<=z/\z<(n:Int)
 ·simp[hz]
 ·exact absurd ⟨h0,h1⟩ hz
def nf{l:List Nat}:(cB l).length=l.length:=by simp[cB]
def uq{l:List Nat}{i x:Nat}(h:i<l.length):dA (cB l) i [.int .u32 (x:Int)]=cB (l.set i x):=by unfold dA cB;rw[List.set_eq_take_append_cons_drop,if_pos h];simp[List.map_take,List.map_drop]
def Kz{H:Hp}{m:Nat}:∀{l:List Nat},e9 (fz H (m+1)) (cB l)=some ((cB l).map fun v=>(v,[]))
 |[]=>rfl
 |x::l=>by
  have hx:fz H (m+1) (AV.int .u32 x)=some (.int .u32 x,[]):=rfl;show e9 (fz H (m+1)) (AV.int .u32 x::cB l)=some ((AV.int .u32 x::cB l).map fun v=>(v,[]))
  unfold e9;rw[hx,Kz (l:=l)];rfl
def W5{H:Hp}{n b off len esz k:Nat}{st:qW}{cs:List AV}{r:List (AV×List Nat)}(h:H[b]?=some (.cells st cs))(hd:st≠ .dead)(hl:¬cs.length<off+len*esz)(hr:e9 (fz H n) ((cs.drop off).take (len*esz))=some r):
  fz H (n+1) (.aI b off len esz k)=some (.aK (r.map (·.1)) len,b::r.flatMap (·.2)):=by
 unfold fz;simp only[h,hr];rw[if_neg (by simp[hd];omega)];rfl
def tD{H:Hp}{b:Nat}{l:List Nat}{st:qW}(h:H[b]?=some (.cells st (cB l)))(hd:st≠ .dead:=by decide):bX H [.aI b 0 l.length 1 l.length]=some ([.aK (cB l) l.length],[b]):=by
 have h2:List.take (l.length*1) (List.drop 0 (cB l))=cB l:=by rw[aRj,aRH,<-nf (l:=l),List.take_length]
 have h3:=W5 (n:=39) (off:=0) (len:=l.length) (esz:=1) (k:=l.length) h hd (by rw[nf];omega) (by rw[h2];exact Kz);unfold bX;rw[show aV [AV.aI b 0 l.length 1 l.length]=false by simp[aV,aU]];simp only[aLT,if_false];unfold e9;rw[h3];have h4:((cB l).map fun v=>(v,([]:List Nat))).map (·.1)=cB l:=by rw[List.map_map];exact List.map_id _
 have h5:∀m:List AV,(m.map fun v=>(v,([]:List Nat))).flatMap (·.2)=[]:=by
  intro m;induction m with
  |nil=>rfl
  |cons a m ih=>rw[List.map_cons,List.flatMap_cons,ih];rfl
 rw[h4,h5];rfl
def wrap_u32{n:Nat}:aW .u32 (n:Int)=((n%4294967296:Nat):Int):=by
 show IntKind.u32.wrap _=_
 rw[IntKind.wrap_u32];omega
def wrap_u64{n:Nat}(h1:n<18446744073709551616:=by omega):aW .u64 (n:Int)=n:=IntWalk.u64_in _ ⟨by omega,by omega⟩
def jJ{E:Env}{c:Bool}{t:Nat}{a:Nat}{k:IntKind}:cp E c .shr t (.int .u64 (a:Nat)) (.int k 32)=some (.int .u64 ((a/4294967296:Nat):Int)):=by
 simp only[cp];rw[if_neg (by decide)]
 have:(min (Int.toNat 32) IntKind.u64.bits)=32:=by decide
 rw[this];congr 2;show Int.fdiv (a:Int) ((2:Int)^32)=_
 rw[Int.fdiv_eq_ediv_of_nonneg _ (by decide)];rfl
def acV:Code->Code
 |.seq a _=>a
 |c=>c
def TQ:Code->Code
 |.seq _ b=>b
 |c=>c
def AQ:Code:=(match Tryz.f105.body with|some c=>c|none=>.skip)
def ZB:Code:=TQ (TQ AQ)
def acU:E0.fn 105=some {code:=AQ,ntmps:=57,results:=[.tmp 4],pure:=true,eD:=false}:=by kernel_rfl
def ZA:AQ=.seq (acV AQ) (.seq (acV (TQ AQ)) ZB):=by kernel_rfl
def cA{l:List Nat}{i:Nat}(h:i<l.length:=by omega):val (l.take (i+1))=val (l.take i)+4294967296^i*l.getD i 0:=by rw[List.take_succ,mz,List.length_take,Nat.min_eq_left (by omega),aRt,aL6 h];simp[val]
def eH{l:List Nat}{i d:Nat}(h:i<l.length:=by omega):val ((l.set i d).take (i+1))=val (l.take i)+4294967296^i*d:=by rw[cA (by simpa using h),List.take_set_of_le (aLt _),aRt,List.getElem?_set_self h];rfl
def cZ{l:List Nat}{i d B:Nat}(hl:∀x∈l,x<B)(hd:d<B:=by omega):∀x∈l.set i d,x<B:=by
 intro x hx;rcases List.mem_or_eq_of_mem_set hx with h|h
 ·exact hl x h
 ·omega
def xF{H:Hp}{al:List AV}:sI false H al=bX H al:=rfl
def Gh{E:Env}(C:Ctx E){v w:AV}{a b:List Nat}(ha:eB v a)(hb:eB w b)(la:a.length<10000000001)(hle:b.length<=a.length){G:AV->Prop}(hG:∀l,eB (.aK (cB l) l.length) l->val l=val a+val b->l.length=a.length+1->G (.aK (cB l) l.length))
  {ts:List AV} (hl:ts.length=57) (g0:gt ts 0=v) (g1:gt ts 1=w):W E ZB ts [] (lZ E [.tmp 4] G):=by
 have T:=gW C.toOver;unfold ZB AQ;have yq:aW .i64 ((a.length:Int)+1)=((a.length+1:Nat):Int):=by rw[wrap_i64];simp
 simp only[Tryz.f105,TQ,↓reduceIte,nH,fu,eo,cP,sT,dX,jf,gK,rO,tY,eO,cU,fQ,mO,dP,b8,aT,cM,bR,aQ,dh,dO,gA,cG,fF,aV,aRf,nO,bA,aN,aZ,aQx,kL,aa,ne_eq,ae,not_false_eq_true,aRd,aQ9,bC,aRc,cu,hl,g0,dG T ha,yq,Y0 C (show a.length+1<100000000000 by omega),cO];refine FY (fun k ts H=>∃i out c,k=a.length-i/\i<=a.length/\ts.length=57/\gt ts 0=v/\gt ts 1=w/\gt ts 20=v/\gt ts 21=.int .i64 (a.length:Nat)/\gt ts 22=.int .i64 (i:Nat)/\gt ts 5=.aI 0 0 (a.length+1) 1 (a.length+1)/\gt ts 6=.int .u64 (c:Nat)/\
  H=[.cells .live (cB out)]/\out.length=a.length+1/\(∀d∈out,d<4294967296)/\c<=1/\val (out.take i)+4294967296^i*c=val (a.take i)+val (b.take i)) (a.length) ?_ ?_
 rotate_left
 ·refine⟨0,aLu (a.length+1) 0,0,by omega,by omega,by simp[hl],?_⟩;simp only[aN,aZ,aQx,hl,aa,ne_eq,ae,not_false_eq_true,g0,g1];refine⟨trivial,trivial,trivial,trivial,rfl,trivial,rfl,?_,by simp,?_,by omega,by simp[val]⟩
  ·simp
  ·intro d hd;have:=(aRG.1 hd).2;omega
 clear hl g0 g1 ts;rintro k ts H ⟨i,out,c,rfl,hi,hl,g0,g1,g20,g21,g22,g5,g6,rfl,ho,hd,hc,hv⟩;have hz:=qx C;have dx:∀(j z:Nat),j<out.length->iZ 1 [.int .u32 (z:Int)] [.cells .live (cB out)] 0 j=some (.cells .live (cB (out.set j z))):=by intro j z hj;rw[kq,uq hj,nf,if_pos];simp[cN];omega
 have vR:=fun z=>dx i z (by omega)
 by_cases sK:i<a.length
 ·have oW:decide ((i:Int)<(a.length:Int))=true:=bj;have EL:=ji T ha (k:=.i64) (z:=(i:Int));have zV:=JD C (b:=0) (n:=a.length+1) (k:=.i64) (z:=(i:Int));rw[aRs]at EL zV;have zZ:=fun H=>oD T (l:=a) (H:=H) sK
  generalize hx:a.getD i 0=x at zZ;have qe:x<4294967296:=by rw[<-hx];rw[aRt,aL6 sK];exact ha.1 _ (aMg sK)
  have w1:aW .u64 (x:Int)=x:=wrap_u64;have w2:aW .u64 ((c:Int)+(x:Int))=((c+x:Nat):Int):=by rw[<-Int.natCast_add];exact wrap_u64
  have w5:aW .i64 ((i:Int)+1)=((i+1:Nat):Int):=by rw[wrap_i64];simp
  by_cases Qk:i<b.length
  ·have Ir:decide ((i:Int)<(b.length:Int))=true:=bj;have JE:=ji T hb (k:=.i64) (z:=(i:Int));rw[aRs]at JE;have LW:=fun H=>oD T (l:=b) (H:=H) Qk
   generalize hy:b.getD i 0=y at LW;have adC:y<4294967296:=by rw[<-hy,aRt,aL6 Qk];exact hb.1 _ (aMg Qk)
   have w3:aW .u64 (y:Int)=y:=wrap_u64;have w4:aW .u64 (((c+x:Nat):Int)+(y:Int))=((c+x+y:Nat):Int):=by rw[<-Int.natCast_add];exact wrap_u64
   simp only[↓reduceIte,eZ,jI,fu,eo,eY,cP,dX,jG,fj,fD,dE,eO,cU,fU,eQ,fQ,tG,dP,b8,aT,cM,de,bR,aQ,dh,dO,gA,cG,aU,nO,bA,aN,aZ,aQx,kL,fZ,aa,ne_eq,ae,not_false_eq_true,aL4,aQ9,aL5,bC,aRi,aRc,cu,eJ,aMi,gG,gF,vR,hl,g0,g1,g20,g21,g22,g5,g6,dG T hb,oW,EL,zZ,ec hz.1 hz.2.1,ec hz.2.1 hz.1,gh,w1,w2,Ir,JE,LW,w3,w4,w5,wrap_u32,jJ,zV,jD (sj C),AV.cells];refine⟨a.length-(i+1),by omega,i+1,out.set i ((c+x+y)%4294967296),(c+x+y)/4294967296,rfl,by omega,trivial,trivial,trivial,trivial,trivial,rfl,trivial,rfl,rfl,by simpa using ho,?_,by omega,?_⟩
   ·exact cZ hd
   ·rw[eH,cA sK,cA Qk,hx,hy];have e:4294967296^(i+1)*((c+x+y)/4294967296)=4294967296^i*(4294967296*((c+x+y)/4294967296)):=by rw[aRu,aRv]
    have e2:4294967296^i*((c+x+y)%4294967296)+4294967296^i*(4294967296*((c+x+y)/4294967296))=4294967296^i*c+4294967296^i*x+4294967296^i*y:=by rw[<-aRe,Nat.mod_add_div,aRe,aRe]
    omega
  ·have Ir:decide ((i:Int)<(b.length:Int))=false:=bh (by omega);simp only[↓reduceIte,eZ,jI,fu,eo,eY,cP,dX,jG,fj,fD,dE,eO,cU,fU,eQ,fQ,tG,dP,b8,aT,cM,de,bR,aQ,dh,dO,gA,cG,aU,nO,bA,aN,aZ,aQx,kL,fZ,aa,ne_eq,ae,not_false_eq_true,aL4,aQ9,aL5,bC,aRi,aRc,cu,eJ,aMi,gG,gF,vR,hl,g0,g1,g20,g21,g22,g5,g6,dG T hb,oW,EL,zZ,ec hz.1 hz.2.1,ec hz.2.1 hz.1,gh,w1,w2,Ir,w5,wrap_u32,jJ,zV,jD (sj C),AV.cells,aLT];refine⟨a.length-(i+1),by omega,i+1,out.set i ((c+x)%4294967296),(c+x)/4294967296,rfl,by omega,trivial,trivial,trivial,trivial,trivial,rfl,trivial,rfl,rfl,by simpa using ho,?_,by omega,?_⟩
   ·exact cZ hd
   ·have eb:∀j,b.length<=j->b.take j=b:=fun j hj=>aPk hj
    rw[eH,cA sK,eb (i+1) (by omega),hx];rw[eb i (by omega)]at hv;have e:4294967296^(i+1)*((c+x)/4294967296)=4294967296^i*(4294967296*((c+x)/4294967296)):=by rw[aRu,aRv]
    have e2:4294967296^i*((c+x)%4294967296)+4294967296^i*(4294967296*((c+x)/4294967296))=4294967296^i*c+4294967296^i*x:=by rw[<-aRe,Nat.mod_add_div,aRe]
    omega
 ·have oW:decide ((i:Int)<(a.length:Int))=false:=bh (by omega);obtain rfl:i=a.length:=by omega
  have zV:=JD C (b:=0) (n:=a.length+1) (k:=.i64) (z:=(a.length:Int));rw[aRs]at zV;have XJ:=fun z=>dx a.length z (by omega)
  have gH:∀z:Nat,sI false [.cells .live (cB (out.set a.length z))] [.aI 0 0 (a.length+1) 1 (a.length+1)]=some ([.aK (cB (out.set a.length z)) (a.length+1)],[0]):=by
   intro z
   have:=tD (H:=[.cells .live (cB (out.set a.length z))]) (b:=0) (l:=out.set a.length z) (st:=.live) rfl
   rw[aQx,ho]at this;exact this
  simp only[↓reduceIte,eZ,jI,fu,eo,eY,cP,dX,jG,fj,fD,dE,jx,eO,cU,fU,eQ,fQ,tG,dP,b8,aT,cM,de,bR,dd,aQ,dh,dO,gA,cG,aU,nO,bA,aN,aZ,aQx,kL,fZ,aa,ne_eq,ae,not_false_eq_true,aL4,aQ9,aL5,bC,aRi,aRc,cu,eJ,aMi,gG,gF,XJ,hl,g0,g1,g20,g21,g22,g5,g6,dG T ha,oW,ec hz.1 hz.2.1,ec hz.2.1 hz.1,gh,wrap_u32,zV,jD (sj C),AV.cells,aLT,gH];have hln:(out.set a.length (c%4294967296)).length=a.length+1:=by simpa using ho
  have:=hG (out.set a.length (c%4294967296)) ⟨cZ hd,.inl rfl⟩ ?_ hln
  ·rw[hln]at this;exact this
  ·have h1:(out.set a.length (c%4294967296)).take (a.length+1)=out.set a.length (c%4294967296):=aPk (by omega);rw[<-h1,eH];rw[aPk (aLt _),aPk hle]at hv;rw[Nat.mod_eq_of_lt (by omega)];exact hv
def Tr{E:Env}(C:Ctx E){v w:AV}{a b:List Nat}(ha:eB v a)(hb:eB w b)(la:a.length<10000000001)(lb:b.length<10000000001):
  ∃r,aP E 105 [v,w]=some r/\∃l,eB r l/\val l=val a+val b/\l.length=max a.length b.length+1:=by
 refine fn2 (C.ov 105 _ (by decide)) (by rw[C.fn];exact acU) rfl (by decide) ?_;intro ts hl g0 g1;have T:=gW C.toOver;show W E AQ ts [] _
 rw[ZA];simp only[fu];unfold AQ;by_cases h:a.length<b.length
 ·have hd:decide ((a.length:Int)<(b.length:Int))=true:=bj;simp only[Tryz.f105,acV,TQ,↓reduceIte,eZ,fu,eY,cP,dX,dE,eO,cU,fQ,dP,b8,aT,cM,bR,aQ,qB,dO,gA,cG,nO,bA,aN,aZ,aQx,fZ,aa,ne_eq,ae,not_false_eq_true,aQ9,bC,aRi,hl,g0,g1,dG T ha,dG T hb,hd];refine Gh C hb ha lb (by omega) ?_ ?_ ?_ ?_
  ·intro l h1 h2 h3;exact⟨l,h1,by omega,by omega⟩
  all_goals simp[aN,aZ,hl]
 ·have hd:decide ((a.length:Int)<(b.length:Int))=false:=bh (by omega);simp only[Tryz.f105,acV,TQ,↓reduceIte,eZ,fu,eY,cP,dX,dE,eO,cU,fQ,dP,b8,aT,cM,bR,aQ,qB,dO,gA,cG,nO,bA,aN,aZ,aQx,fZ,aa,ne_eq,ae,not_false_eq_true,aQ9,bC,aRi,hl,g0,g1,dG T ha,dG T hb,hd,aLT];refine Gh C ha hb la (by omega) ?_ ?_ ?_ ?_
  ·intro l h1 h2 h3;exact⟨l,h1,by omega,by omega⟩
  all_goals simp[aZ,hl,g0,g1]
def Of:Code:=(match Tryz.f107.body with|some c=>c|none=>.skip)
def WU:E0.fn 107=some {code:=Of,ntmps:=44,results:=[.tmp 4],pure:=true,eD:=false}:=by kernel_rfl
def vG{z:Int}:aW .u32 z=z%4294967296:=by
 show IntKind.u32.wrap _=_
 rw[IntKind.wrap_u32]
def Dr{E:Env}(C:Ctx E){v w:AV}{a b:List Nat}(ha:eB v a)(hb:eB w b)(la:a.length<10000000001)(hle:b.length<=a.length)(hvl:val b<=val a:=by omega):
  ∃r,aP E 107 [v,w]=some r/\∃l,eB r l/\val l=val a-val b/\l.length=a.length:=by
 refine fn2 (C.ov 107 _ (by decide)) (by rw[C.fn];exact WU) rfl (by decide) ?_;intro ts hl g0 g1;have T:=gW C.toOver;show W E Of ts [] _
 unfold Of;simp only[Tryz.f107,↓reduceIte,nH,fu,eo,cP,sT,dX,jf,gK,rO,tY,eO,cU,mO,dP,b8,aT,cM,bR,aQ,dh,qB,dO,gA,cG,fF,aV,aRf,nO,bA,aN,aZ,aQx,aa,ne_eq,ae,not_false_eq_true,aRd,aL4,aQ9,aL5,cu,hl,g0,dG T ha,Y0 C (show a.length<100000000000 by omega),cO];refine FY (fun k ts H=>∃i out c,k=a.length-i/\i<=a.length/\ts.length=44/\gt ts 1=w/\gt ts 13=v/\gt ts 14=.int .i64 (a.length:Nat)/\gt ts 15=.int .i64 (i:Nat)/\gt ts 5=.aI 0 0 a.length 1 a.length/\gt ts 6=.int .i64 (c:Nat)/\
  H=[.cells .live (cB out)]/\out.length=a.length/\(∀d∈out,d<4294967296)/\c<=1/\val (out.take i)+val (b.take i)=val (a.take i)+4294967296^i*c) (a.length) ?_ ?_
 rotate_left
 ·refine⟨0,aLu a.length 0,0,by omega,by omega,by simp[hl],?_⟩;simp only[aN,aZ,aQx,hl,aa,ne_eq,ae,not_false_eq_true,g1];refine⟨trivial,trivial,trivial,rfl,trivial,rfl,?_,by simp,?_,by omega,by simp[val]⟩
  ·simp
  ·intro d hd;have:=(aRG.1 hd).2;omega
 clear hl g0 g1 ts;rintro k ts H ⟨i,out,c,rfl,hi,hl,g1,g13,g14,g15,g5,g6,rfl,ho,hd,hc,hv⟩;have hz:=qx C;have dx:∀(j z:Nat),j<out.length->iZ 1 [.int .u32 (z:Int)] [.cells .live (cB out)] 0 j=some (.cells .live (cB (out.set j z))):=by intro j z hj;rw[kq,uq hj,nf,if_pos];simp[cN];omega
 by_cases sK:i<a.length
 ·have vR:=fun z=>dx i z (by omega)
  have oW:decide ((i:Int)<(a.length:Int))=true:=bj;have EL:=ji T ha (k:=.i64) (z:=(i:Int));have zV:=JD C (b:=0) (n:=a.length) (k:=.i64) (z:=(i:Int));rw[aRs]at EL zV;have zZ:=fun H=>oD T (l:=a) (H:=H) sK
  generalize hx:a.getD i 0=x at zZ;have qe:x<4294967296:=by rw[<-hx];rw[aRt,aL6 sK];exact ha.1 _ (aMg sK)
  have w1:aW .i64 (x:Int)=x:=wrap_i64;have w2:aW .i64 ((x:Int)-(c:Int))=(x:Int)-(c:Int):=wrap_i64;have w5:aW .i64 ((i:Int)+1)=((i+1:Nat):Int):=by rw[wrap_i64];simp
  by_cases Qk:i<b.length
  ·have Ir:decide ((i:Int)<(b.length:Int))=true:=bj;have JE:=ji T hb (k:=.i64) (z:=(i:Int));rw[aRs]at JE;have LW:=fun H=>oD T (l:=b) (H:=H) Qk
   generalize hy:b.getD i 0=y at LW;have adC:y<4294967296:=by rw[<-hy,aRt,aL6 Qk];exact hb.1 _ (aMg Qk)
   have w3:aW .i64 (y:Int)=y:=wrap_i64;have w4:aW .i64 ((x:Int)-(c:Int)-(y:Int))=(x:Int)-(c:Int)-(y:Int):=wrap_i64;by_cases o9:(x:Int)-(c:Int)-(y:Int)<0
   ·have hn:decide ((x:Int)-(c:Int)-(y:Int)<0)=true:=bj;have w6:aW .u32 ((x:Int)-(c:Int)-(y:Int))=((x+4294967296-c-y:Nat):Int):=by rw[vG];omega
    simp(maxSteps:=1000000)only[↓reduceIte,eZ,jI,fu,eo,eY,cP,dX,jG,fj,fD,dE,eO,cU,fU,eQ,fQ,tG,dP,b8,aT,cM,de,bR,aQ,dh,dO,gA,cG,aU,nO,bA,aN,aZ,aQx,kL,l8,fZ,aa,ne_eq,ae,not_false_eq_true,aL4,aQ9,aL5,bC,aRi,aRc,cu,eJ,aMi,gG,gF,vR,hl,g1,g13,g14,g15,g5,g6,dG T hb,oW,EL,zZ,ec hz.1 hz.2.2.1,ec hz.2.2.1 hz.1,gh,w1,w2,Ir,JE,LW,w3,w4,w5,w6,hn,zV,jD (sj C),AV.cells]
    refine⟨a.length-(i+1),by omega,i+1,out.set i (x+4294967296-c-y),1,rfl,by omega,trivial,trivial,trivial,trivial,rfl,trivial,rfl,rfl,by simpa using ho,?_,by omega,?_⟩
    ·exact cZ hd
    ·rw[eH,cA sK,hx,cA Qk,hy];have e:4294967296^(i+1)*1=4294967296^i*(4294967296*1):=by rw[aRu,aRv]
     have e2:4294967296^i*(x+4294967296-c-y)+4294967296^i*y+4294967296^i*c=4294967296^i*x+4294967296^i*(4294967296*1):=by rw[<-aRe,<-aRe,<-aRe];congr 1;omega
     omega
   ·have hn:decide ((x:Int)-(c:Int)-(y:Int)<0)=false:=bh (by omega);have w6:aW .u32 ((x:Int)-(c:Int)-(y:Int))=((x-c-y:Nat):Int):=by rw[vG];omega
    simp(maxSteps:=1000000)only[↓reduceIte,eZ,jI,fu,eo,eY,cP,dX,jG,fj,fD,dE,eO,cU,fU,eQ,fQ,tG,dP,b8,aT,cM,de,bR,aQ,dh,dO,gA,cG,aU,nO,bA,aN,aZ,aQx,kL,l8,fZ,aa,ne_eq,ae,not_false_eq_true,aL4,aQ9,aL5,bC,aRi,aRc,cu,eJ,aMi,gG,gF,vR,hl,g1,g13,g14,g15,g5,g6,dG T hb,oW,EL,zZ,ec hz.1 hz.2.2.1,ec hz.2.2.1 hz.1,gh,w1,w2,Ir,JE,LW,w3,w4,w5,w6,hn,zV,jD (sj C),AV.cells,aLT]
    refine⟨a.length-(i+1),by omega,i+1,out.set i (x-c-y),0,rfl,by omega,trivial,trivial,trivial,trivial,rfl,trivial,rfl,rfl,by simpa using ho,?_,by omega,?_⟩
    ·exact cZ hd
    ·rw[eH,cA sK,hx,cA Qk,hy];have e:4294967296^(i+1)*0=4294967296^i*(4294967296*0):=by rw[aRu,aRv]
     have e2:4294967296^i*(x-c-y)+4294967296^i*y+4294967296^i*c=4294967296^i*x+4294967296^i*(4294967296*0):=by rw[<-aRe,<-aRe,<-aRe];congr 1;omega
     omega
  ·have Ir:decide ((i:Int)<(b.length:Int))=false:=bh (by omega);by_cases o9:(x:Int)-(c:Int)<0
   ·have hn:decide ((x:Int)-(c:Int)<0)=true:=bj;have w6:aW .u32 ((x:Int)-(c:Int))=((x+4294967296-c:Nat):Int):=by rw[vG];omega
    simp(maxSteps:=1000000)only[↓reduceIte,eZ,jI,fu,eo,eY,cP,dX,jG,fj,fD,dE,eO,cU,fU,eQ,fQ,tG,dP,b8,aT,cM,de,bR,aQ,dh,dO,gA,cG,aU,nO,bA,aN,aZ,aQx,kL,l8,fZ,aa,ne_eq,ae,not_false_eq_true,aL4,aQ9,aL5,bC,aRi,aRc,cu,eJ,aMi,gG,gF,vR,hl,g1,g13,g14,g15,g5,g6,dG T hb,oW,EL,zZ,ec hz.1 hz.2.2.1,ec hz.2.2.1 hz.1,gh,w1,w2,Ir,w5,w6,hn,zV,jD (sj C),AV.cells,aLT]
    refine⟨a.length-(i+1),by omega,i+1,out.set i (x+4294967296-c),1,rfl,by omega,trivial,trivial,trivial,trivial,rfl,trivial,rfl,rfl,by simpa using ho,?_,by omega,?_⟩
    ·exact cZ hd
    ·rw[eH,cA sK,hx];rw[aPk (show b.length<=i+1 by omega)];rw[aPk (show b.length<=i by omega)]at hv;have e:4294967296^(i+1)*1=4294967296^i*(4294967296*1):=by rw[aRu,aRv]
     have e2:4294967296^i*(x+4294967296-c)+4294967296^i*0+4294967296^i*c=4294967296^i*x+4294967296^i*(4294967296*1):=by rw[<-aRe,<-aRe,<-aRe];congr 1;omega
     rw[aRF]at e2;omega
   ·have hn:decide ((x:Int)-(c:Int)<0)=false:=bh (by omega);have w6:aW .u32 ((x:Int)-(c:Int))=((x-c:Nat):Int):=by rw[vG];omega
    simp(maxSteps:=1000000)only[↓reduceIte,eZ,jI,fu,eo,eY,cP,dX,jG,fj,fD,dE,eO,cU,fU,eQ,fQ,tG,dP,b8,aT,cM,de,bR,aQ,dh,dO,gA,cG,aU,nO,bA,aN,aZ,aQx,kL,l8,fZ,aa,ne_eq,ae,not_false_eq_true,aL4,aQ9,aL5,bC,aRi,aRc,cu,eJ,aMi,gG,gF,vR,hl,g1,g13,g14,g15,g5,g6,dG T hb,oW,EL,zZ,ec hz.1 hz.2.2.1,ec hz.2.2.1 hz.1,gh,w1,w2,Ir,w5,w6,hn,zV,jD (sj C),AV.cells,aLT]
    refine⟨a.length-(i+1),by omega,i+1,out.set i (x-c),0,rfl,by omega,trivial,trivial,trivial,trivial,rfl,trivial,rfl,rfl,by simpa using ho,?_,by omega,?_⟩
    ·exact cZ hd
    ·rw[eH,cA sK,hx];rw[aPk (show b.length<=i+1 by omega)];rw[aPk (show b.length<=i by omega)]at hv;have e:4294967296^(i+1)*0=4294967296^i*(4294967296*0):=by rw[aRu,aRv]
     have e2:4294967296^i*(x-c)+4294967296^i*0+4294967296^i*c=4294967296^i*x+4294967296^i*(4294967296*0):=by rw[<-aRe,<-aRe,<-aRe];congr 1;omega
     rw[aRF]at e2;omega
 ·have oW:decide ((i:Int)<(a.length:Int))=false:=bh (by omega);obtain rfl:i=a.length:=by omega
  have gH:sI false [.cells .live (cB out)] [.aI 0 0 a.length 1 a.length]=some ([.aK (cB out) a.length],[0]):=by
   have:=tD (H:=[.cells .live (cB out)]) (b:=0) (l:=out) (st:=.live) rfl
   rw[ho]at this;exact this
  simp only[↓reduceIte,eZ,jI,fu,eo,eY,cP,dX,jG,fD,dE,jx,eO,cU,fU,fQ,tG,dP,b8,aT,bR,dd,aQ,dh,dO,gA,cG,aU,bA,aN,aZ,aQx,fZ,aa,ne_eq,ae,not_false_eq_true,bC,aRi,aRc,gG,gF,hl,g13,g14,g15,g5,oW,aLT,gH];refine⟨out,⟨hd,.inl (by rw[ho])⟩,?_,ho⟩;rw[aPk (Nat.le_of_eq ho),aPk hle,aPk (aLt _)]at hv;have h1:=oQ hd;rw[ho]at h1
  have:c=0:=by
   rcases Nat.eq_zero_or_pos c with h|h
   ·exact h
   ·have:c=1:=by omega
    subst this;omega
  subst this;omega
def ahU:Code:=(match Tryz.f72.body with|some c=>c|none=>.skip)
def ajK:E0.fn 72=some {code:=ahU,ntmps:=42,results:=[.cell 4 58],pure:=true,eD:=false}:=by kernel_rfl
def nZ{v:AV}{z:Int}(h:eA v z):∃x y,v=.agg [x,y]/\cN x=true/\cN y=true/\aU x=true/\aU y=true:=by obtain⟨neg,m,l,rfl,hm,_⟩:=h;exact⟨_,_,rfl,rfl,(bB hm).2,rfl,aO hm⟩
def ID{E:Env}(C:Ctx E){v w:AV}{x y:Int}(h:eA v x)(k:eA w y)(fx:Fit x)(fy:Fit y):∃r,aP E 72 [v,w]=some r/\eA r (x+y):=by
 obtain⟨na,m,a,rfl,hm,hn,o9,rfl⟩:=h;obtain⟨nb,m',b,rfl,ky,xk,Jo,rfl⟩:=k;have la:=uI hn nu fx;have lb:=uI xk nu fy;refine fn2 (C.ov 72 _ (by decide)) (by rw[C.fn];exact ajK) rfl (by decide) ?_;intro ts hl g0 g1;have T:=gW C.toOver;show W E ahU ts [] _
 unfold ahU;by_cases hs:na=nb
 ·subst hs;have hd:(na==na)=true:=by simp
  obtain⟨rp,hp,lp,zN,vp,lnp⟩:=Tr C hm ky la lb;obtain⟨r,hr,zQ⟩:=iD C zN (by omega) na;have kB:=dB hr;have lE:eA r ((if na=true then-(val a:Int)else val a)+(if na=true then-(val b:Int)else val b)):=by
   rw[vp]at zQ;cases na
   ·simpa using zQ
   ·simp only[if_true]at zQ⊢;rw[show-(val a:Int)+ -(val b:Int)= -((val a+val b:Nat):Int)by omega];exact zQ
  obtain⟨u,t,rfl,o1,o2,p1,p2⟩:=nZ zQ;simp only[Tryz.f72,↓reduceIte,eZ,nH,fu,eo,eY,cP,zt,dX,BZ,fj,sO,dE,jf,jx,gK,jN,tY,cU,mD,Az,fU,eQ,fQ,CS,oz,b8,aT,de,bR,dd,k9,aQ,dh,lA,dO,gA,cG,fF,mH,aV,aU,aRf,aRm,aRo,sY,bA,aN,aZ,aQx,aRa,aRb,beq_self_eq_true,aa,ah,ne_eq,ae,not_false_eq_true,fk,aRd,aRk,aL4,aQ9,aL5,bC,aRi,aRc,dZ,iV,kJ,nN,kq,nF,cu,jM,eJ,fW,aMi,aPZ,aRr,aRg,aRn,aRh,aRj,aRp,aRl,aLt,decide_true,aRq,hl,g0,g1,p8 C,p9 C,gC (EU C),gC (v8 C),nB (B6 C),jD (DX C),oV C,aO hm,aO ky,aO zN,GC (Fg C),hp,kB,o1,o2,p1,p2];exact⟨⟨rfl,by rw[C.pairs];rfl⟩,lE⟩
 ·have hd:(na==nb)=false:=by simpa using hs
  have ord:=dB (rG C hm ky hn xk);by_cases hv:val b<=val a
  ·have Qi:decide (mL (val a) (val b)≥0)=true:=bj (by unfold mL;split<;>(try split)<;>omega);have hlen:b.length<=a.length:=by
    by_cases q:a.length<b.length
    ·have:=vD hm.1 xk q
     omega
    ·omega
   obtain⟨rp,hp,lp,zN,vp,lnp⟩:=Dr C hm ky la hlen;obtain⟨r,hr,zQ⟩:=iD C zN (by omega) na;have kB:=dB hr;have lE:eA r ((if na=true then-(val a:Int)else val a)+(if nb=true then-(val b:Int)else val b)):=by
    rw[vp]at zQ;have e:(if na=true then-((val a-val b:Nat):Int)else((val a-val b:Nat):Int))=((if na=true then-(val a:Int)else val a)+(if nb=true then-(val b:Int)else val b)):=by
     cases na<;>cases nb<;>first|(exact absurd rfl hs)|(simp;omega)
    rw[<-e];exact zQ
   obtain⟨u,t,rfl,o1,o2,p1,p2⟩:=nZ zQ;simp only[Tryz.f72,↓reduceIte,eZ,nH,fu,eo,eY,cP,zt,dX,BZ,fj,sO,dE,jf,jx,gK,jN,tY,cU,mD,Az,fU,eQ,fQ,CS,oz,b8,aT,de,bR,dd,k9,aQ,dh,lA,dO,gA,cG,fF,mH,aV,aU,aRf,aRm,aRo,sY,bA,aN,aZ,aQx,aRa,aRb,beq_self_eq_true,zw,aa,ah,ne_eq,ae,not_false_eq_true,fk,aRd,aRk,aL4,aQ9,aL5,bC,aRi,aRc,dZ,iV,kJ,nN,kq,nF,cu,jM,eJ,fW,aMi,aPZ,aRr,aRg,aRn,aRh,aRj,aRp,aRl,aLt,decide_true,aRq,hl,g0,g1,p8 C,p9 C,gC (EU C),gC (v8 C),nB (B6 C),jD (DX C),oV C,aO hm,aO ky,aO zN,GC (Fg C),hd,hp,kB,o1,o2,p1,p2,ord,Qi,aLT];exact⟨⟨rfl,by rw[C.pairs];rfl⟩,lE⟩
  ·have Qi:decide (mL (val a) (val b)≥0)=false:=bh (by unfold mL;split<;>(try split)<;>omega);have hlen:a.length<=b.length:=by
    by_cases q:b.length<a.length
    ·have:=vD ky.1 hn q
     omega
    ·omega
   obtain⟨rp,hp,lp,zN,vp,lnp⟩:=Dr C ky hm lb hlen;obtain⟨r,hr,zQ⟩:=iD C zN (by omega) nb;have kB:=dB hr;have lE:eA r ((if na=true then-(val a:Int)else val a)+(if nb=true then-(val b:Int)else val b)):=by
    rw[vp]at zQ;have e:(if nb=true then-((val b-val a:Nat):Int)else((val b-val a:Nat):Int))=((if na=true then-(val a:Int)else val a)+(if nb=true then-(val b:Int)else val b)):=by
     cases na<;>cases nb<;>first|(exact absurd rfl hs)|(simp;omega)
    rw[<-e];exact zQ
   obtain⟨u,t,rfl,o1,o2,p1,p2⟩:=nZ zQ;simp only[Tryz.f72,↓reduceIte,eZ,nH,fu,eo,eY,cP,zt,dX,BZ,fj,sO,dE,jf,jx,gK,jN,tY,cU,mD,Az,fU,eQ,fQ,CS,oz,b8,aT,de,bR,dd,k9,aQ,dh,lA,dO,gA,cG,fF,mH,aV,aU,aRf,aRm,aRo,sY,bA,aN,aZ,aQx,aRa,aRb,beq_self_eq_true,zw,aa,ah,ne_eq,ae,not_false_eq_true,fk,aRd,aRk,aL4,aQ9,aL5,bC,aRi,aRc,dZ,iV,kJ,nN,kq,nF,cu,jM,eJ,fW,aMi,aPZ,aRr,aRg,aRn,aRh,aRj,aRp,aRl,aLt,decide_true,aRq,hl,g0,g1,p8 C,p9 C,gC (EU C),gC (v8 C),nB (B6 C),jD (DX C),oV C,aO hm,aO ky,aO zN,GC (Fg C),hd,hp,kB,o1,o2,p1,p2,ord,Qi,aLT];exact⟨⟨rfl,by rw[C.pairs];rfl⟩,lE⟩
def Qb{z:Int}(h:Fit z):Fit (-z):=by obtain⟨n,h1,h2⟩:=h;exact⟨n,h1,by rwa[Int.natAbs_neg]⟩
def nR{E:Env}{ops rest:List Oper}{ts:List AV}{H:Hp}{q:List AV->Hp->Prop}{d:Option Nat}{t:Nat}{p:String}{af:Array Edge}{t1 len:Nat}{ps:Array (Nat×Operand)}:
  dW E ops (⟨d,.buildSlice t1 len ps,t,p,af,none⟩::rest) ts H q=zq (sJ ts ps.toList) fun vs=>qZ (bZ E H.length t1 len vs) fun r=>dW E ops rest (bA d r.1 ts) ((cF.bJ r.2).app H) q:=by
 rw[nK rfl (by intro c h;cases h)];simp only[dH,bZ];cases sJ ts ps.toList with
 |none=>
  cases E.ty t1 with
  |none=>rfl
  |some i=>
   obtain⟨cD,jA,jS,jB,jZ,dK⟩:=i;cases cD<;>try rfl
   rename_i e;simp only;cases E.ty e with
   |none=>rfl
   |some ei=>simp only;cases ei.zero<;>rfl
 |some vs=>
  simp only[fM];cases E.ty t1 with
  |none=>rfl
  |some i=>
   obtain⟨cD,jA,jS,jB,jZ,dK⟩:=i;cases cD<;>try rfl
   rename_i e;simp only;cases E.ty e with
   |none=>rfl
   |some ei=>
    simp only;cases ei.zero with
    |none=>rfl
    |some z=>
     simp only
     split
     ·cases fP (fun i=>some (i*ei.size,ei.size)) (gJ z len) vs<;>rfl
     ·rfl
def abA{E:Env}(C:Ctx E){aR:Nat}{x y:Int}:bZ E aR 56 2 [(0,.int .u32 x),(1,.int .u32 y)]=some (.aI aR 0 2 1 2,[(aR,.cells .live [.int .u32 x,.int .u32 y])]):=by have T:=gW C.toOver;obtain⟨i,e1,e2,e3⟩:=T.t66;obtain⟨j,f1,f2,f3,f4,f5,f6⟩:=T.t126;obtain⟨cD,jA,jS,jB,jZ,dK⟩:=i;simp only at e2;subst e2;simp[bZ,e1,f1,f5,f4,gJ,fP,AV.cells]
def W4:Code:=(match Tryz.f81.body with|some c=>c|none=>.skip)
def acS:E0.fn 81=some {code:=W4,ntmps:=19,results:=[.cell 2 58],pure:=true,eD:=false}:=by kernel_rfl
def oq{b:Nat}{H:Hp}:(cF.marks [b]).app H=H.modify b cE.j8:=rfl
def kH{b:Nat}{x:cE}:cO [] b x=[x]:=rfl
def Am{z:Int}:aW .u64 z=z%18446744073709551616:=by
 show IntKind.u64.wrap z=_
 unfold IntKind.wrap;simp[IntKind.signed,IntKind.bits]
def Ib{k:IntKind}{n:Int}:T1 .neg (.int k n)=some (.int k (aW k (0-n))):=rfl
def zI{E:Env}(C:Ctx E){n:Int}(h0: -9223372036854775808<=n:=by omega)(h1:n<9223372036854775808:=by omega):∃r,aP E 81 [.int .i64 n]=some r/\eA r n:=by
 obtain⟨k,hk⟩:∃k:Nat,k=n.natAbs:=⟨_,rfl⟩;have hm:eB (.aK (cB [k%4294967296,k/4294967296%4294967296]) 2) [k%4294967296,k/4294967296%4294967296]:=⟨by intro d hd;simp at hd;omega,.inl rfl⟩;have hv:val [k%4294967296,k/4294967296%4294967296]=k:=by simp only[val];omega
 obtain⟨r,hr,zQ⟩:=iD C hm (by simp) (decide (n<0));have kB:=dB hr;rw[hv]at zQ;have lE:eA r n:=by
  have e:(if decide (n<0)=true then-(k:Int)else(k:Int))=n:=by
   by_cases q:n<0
   ·rw[bj q];simp only[if_true];omega
   ·rw[bh q];simp only[aLT,if_false];omega
  rwa[e]at zQ
 obtain⟨u,t,rfl,o1,o2,p1,p2⟩:=nZ zQ;refine fn1 (C.ov 81 _ (by decide)) (by rw[C.fn];exact acS) rfl (by decide) ?_;intro ts hl g0;have T:=gW C.toOver;have hz:=qx C;show W E W4 ts [] _
 unfold W4;have w2:aW .u32 (k:Int)=((k%4294967296:Nat):Int):=wrap_u32;have w3:aW .u32 ((k/4294967296:Nat):Int)=((k/4294967296%4294967296:Nat):Int):=wrap_u32;have gH:∀b:Bool,sI false [.cells .live [.bool false,.aH],.cells .live [.int .u32 ((k%4294967296:Nat):Int),.int .u32 ((k/4294967296%4294967296:Nat):Int)]] [.bool b,.aI 1 0 2 1 2]=some ([.bool b,.aK (cB [k%4294967296,k/4294967296%4294967296]) 2],[1]):=by intro b;rfl
 by_cases q:n<0
 ·have hd:decide (n<0)=true:=bj q;have w0:aW .u64 n=n+18446744073709551616:=by rw[Am];omega
  have w1:aW .u64 (0-(n+18446744073709551616))=(k:Int):=by rw[Am];omega
  rw[hd]at kB;cases tO:bQ (.agg [u,t])
  ·simp only[Tryz.f81,↓reduceIte,eZ,nH,fu,eY,cP,dX,dE,jf,jx,gK,jN,tY,eO,cU,mD,eQ,fQ,Sj,oz,b8,aT,cM,de,bR,fM,dd,k9,aQ,dh,lA,dO,gA,CB,CA,cG,kM,fF,mH,aV,aU,aRf,aRm,aRo,bA,aN,aZ,aQx,beq_self_eq_true,fZ,aa,ah,ne_eq,ae,not_false_eq_true,fk,aRd,aL4,aQ9,aL5,bC,aRc,kJ,kq,cu,jM,eJ,fW,aMi,aPZ,aRr,aRg,aRn,aRh,aRj,aRp,aRl,aLt,decide_true,aRq,hl,g0,nB (B6 C),jD (DX C),oV C,ec hz.2.2.2 hz.2.1,ec hz.2.1 hz.1,gh,w0,hd,Ib,w1,w2,w3,nR,abA C,jJ,gH,kB,tO,o1,o2,p1,p2,aLT,oq,aRA,aRB,kH];exact lE
  ·simp only[Tryz.f81,↓reduceIte,eZ,nH,fu,eY,cP,dX,dE,jf,jx,gK,jN,tY,eO,cU,mD,eQ,fQ,Sj,oz,b8,aT,cM,de,bR,fM,dd,k9,aQ,dh,lA,dO,gA,CB,CA,cG,kM,fF,mH,aV,aU,aRf,aRm,aRo,uA,bA,aN,aZ,aQx,beq_self_eq_true,fZ,aa,ah,ne_eq,ae,not_false_eq_true,fk,aRd,aL4,aQ9,aL5,bC,aRc,kJ,kq,cu,jM,eJ,fW,aMi,aPZ,aRr,aRg,aRn,aRh,aRj,aRp,aRl,aLt,decide_true,aRq,hl,g0,nB (B6 C),jD (DX C),oV C,ec hz.2.2.2 hz.2.1,ec hz.2.1 hz.1,gh,w0,hd,Ib,w1,w2,w3,nR,abA C,jJ,gH,kB,tO,o1,o2,p1,p2,kH];exact lE
 ·have hd:decide (n<0)=false:=bh q;have w0:aW .u64 n=(k:Int):=by rw[Am];omega
  rw[hd]at kB;cases tO:bQ (.agg [u,t])
  ·simp only[Tryz.f81,↓reduceIte,eZ,nH,fu,eY,cP,dX,dE,jf,jx,gK,jN,tY,eO,cU,mD,eQ,fQ,Sj,oz,b8,aT,cM,de,bR,fM,dd,k9,aQ,dh,lA,dO,gA,CB,CA,cG,kM,fF,mH,aV,aU,aRf,aRm,aRo,bA,aN,aZ,aQx,beq_self_eq_true,fZ,aa,ah,ne_eq,ae,not_false_eq_true,fk,aRd,aL4,aQ9,aL5,bC,aRc,kJ,kq,cu,jM,eJ,fW,aMi,aPZ,aRr,aRg,aRn,aRh,aRj,aRp,aRl,aLt,decide_true,aRq,hl,g0,nB (B6 C),jD (DX C),oV C,ec hz.2.2.2 hz.2.1,ec hz.2.1 hz.1,gh,w0,hd,w2,w3,nR,abA C,jJ,gH,kB,tO,o1,o2,p1,p2,aLT,oq,aRA,aRB,kH];exact lE
  ·simp only[Tryz.f81,↓reduceIte,eZ,nH,fu,eY,cP,dX,dE,jf,jx,gK,jN,tY,eO,cU,mD,eQ,fQ,Sj,oz,b8,aT,cM,de,bR,fM,dd,k9,aQ,dh,lA,dO,gA,CB,CA,cG,kM,fF,mH,aV,aU,aRf,aRm,aRo,uA,bA,aN,aZ,aQx,beq_self_eq_true,fZ,aa,ah,ne_eq,ae,not_false_eq_true,fk,aRd,aL4,aQ9,aL5,bC,aRc,kJ,kq,cu,jM,eJ,fW,aMi,aPZ,aRr,aRg,aRn,aRh,aRj,aRp,aRl,aLt,decide_true,aRq,hl,g0,nB (B6 C),jD (DX C),oV C,ec hz.2.2.2 hz.2.1,ec hz.2.1 hz.1,gh,w0,hd,w2,w3,nR,abA C,jJ,gH,kB,tO,o1,o2,p1,p2,aLT,kH];exact lE
end Go.Proofs.YtmkjgfnicfpjpaaGreatDoor
