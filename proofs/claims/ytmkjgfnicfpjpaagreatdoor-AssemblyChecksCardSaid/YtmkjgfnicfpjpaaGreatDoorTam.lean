/- Lemmas for AssemblyChecks; no condition. -/
import Derived.Test.YtmkjgfnicfpjpaaGreatDoorTal
import Derived.Test.YtmkjgfnicfpjpaaGreatDoorTag
import Derived.IntWalk
set_option linter.all false
set_option maxHeartbeats 100000000
set_option maxRecDepth 100000
noncomputable section
open List renaming length_set->aPI,length_cons->aLf,length_nil->aQk,getElem?_cons_zero->aQl,getElem?_cons_succ->aQm,take_of_length_le->aOv,nil_append->aQo,take_succ_cons->aQr,drop_succ_cons->aQs,replicate->aKF,drop_zero->aQu,cons_append->aQv,append_nil->aQw,take_zero->aQy,getElem?_eq_getElem->aLh,all_cons->aPa,drop_nil->aQA,take_nil->aQB,all_nil->aQC,getD->aQE,reverse_append->aQH,drop_eq_getElem_cons->aQI,getElem_mem->aLr,replicate_succ->aQJ,dropLast_concat_getLast->aQK,modify_succ_cons->aQL,modify_zero_cons->aQM,mem_of_mem_take->aQN,reverse_reverse->aQO,mem_replicate->aQR,drop_length->aQU
open Bool renaming false_eq_true->aK4,or_true->aQn,and_true->aQq,or_self->aQt,true_and->aQx,and_self->aQz,and_eq_true->aMh
open Option renaming map_some->aLt,bind_some->aPf,isSome_iff_exists->aMm
open Nat renaming zero_add->aLg,mul_add->aQp,le_refl->aKE,pow_succ->aQF,mul_assoc->aQG,mul_le_mul_left->aQP,mul_zero->aQQ,mul_one->aQS,reduceLT->aa,reduceEqDiff->ae,reduceAdd->ah
open Int renaming toNat_natCast->aQD
namespace Go.Proofs.YtmkjgfnicfpjpaaGreatDoor
open Go Dv
structure Over(E:Env):Prop where
 fn:E.fn=E0.fn
 ty:E.ty=E0.ty
 rC:E.rC=EY
 pairs:E.pairs=E0.pairs
 glob:E.glob=E0.glob
class Ctx(E:Env):Prop extends Over E where
 ov:∀f l,f∉MB->E.ov f l=none
 ovX:∀f l,f∈Jd->E.ov f l=iD Bs f l
def fV{E:Env}(C:Ctx E){f:Nat}{l:List AV}{H:Hp}(h:f≠215:=by decide):E.rC f l H=none:=by rw[C.rC];exact BQ h
section
variable{E:Env}
def PF{f:Nat}{fi:FnI}{args:List AV}{r:AV}(ke:E.ov f args=none)(fB:E.fn f=some fi)(hp:fi.pure=true)
  (h:Cv E fi.code (args++aKF (fi.ntmps-args.length) bS) [] fun ex ts H=>(∀id,ex≠ .exit id)/\∃rs bs,fL H E ts fi.results=some rs/\bW H [gV rs]=some ([r],bs)):∃n,call E n f args=some r:=by
 obtain⟨n,ex,ts,H,h1,h2,rs,bs,h3,h4⟩:=h;refine⟨n,?_⟩;unfold call jE;simp only[ke,fB,hp,Bool.true_or,Bool.not_true,aK4,if_false,h1];cases ex with
 |exit id=>exact absurd rfl (h2 id)
 |normal=>simp only[h3,h4]
 |ret=>simp only[h3,h4]
end
def cA(l:List Nat):List AV:=l.map fun(n:Nat)=>.int .u32 (n:Int)
def eC(v:AV)(l:List Nat):Prop:=(∀d∈l,d<4294967296)/\(v=.aK (cA l) l.length∨(l=[]/\(v=.aH∨v=.dx)))
section
variable{E:Env}
structure E5(E:Env):Prop where
 t66:∃i,E.ty 56=some i/\i.cD=.slice 177/\i.isAgg=false
 t126:∃i,E.ty 177=some i/\i.cD=.int .u32/\i.isAgg=false/\i.size=1/\i.zero=some [.int .u32 0]/\i.bytes=4
def dG(T:E5 E){v:AV}{l:List Nat}(h:eC v l){H:Hp}{aP:Nat}:bB E H aP .len [56] [v]=some (.int .i64 (l.length:Nat),[]):=by
 obtain⟨i,h1,h2,_⟩:=T.t66;obtain⟨cD,jA,jS,jB,jZ,dQ⟩:=i;simp only at h2;subst h2;rcases h.2 with rfl|⟨rfl,rfl|rfl⟩<;>simp[bB,nw,h1]
def ji(T:E5 E){v:AV}{l:List Nat}(h:eC v l){k:IntKind}{z:Int}(h0:0<=z:=by omega)(h1:z<(l.length:Int):=by omega):b9 E 56 v (.int k z)=some (.cU (cA l) z.toNat):=by
 obtain⟨i,e1,e2,_⟩:=T.t66;obtain⟨j,f1,f2,f3,f4,_⟩:=T.t126;rcases h.2 with rfl|⟨rfl,_⟩
 ·simp only[b9,e1,e2,f1,f4];rw[if_pos ⟨h0,h1⟩,aQS]
 ·simp at h1;omega
def oz(T:E5 E){l:List Nat}{H:Hp}{n:Nat}(h:n<l.length:=by omega):dW E H 177 (.cU (cA l) n)=some (.int .u32 (l.getD n 0:Nat)):=by obtain⟨j,f1,f2,f3,f4,_⟩:=T.t126;simp[dW,yG,gl,f1,f3,cA,aQE,h]
def al6(T:E5 E){v:AV}{l:List Nat}(h:eC v l){k:IntKind}{z:Int}(h0:0<=z)(h1:z<=(l.length:Int)):∃r,gg E 56 v none (some (.int k z))=some r/\eC r (l.take z.toNat):=by
 obtain⟨i,e1,e2,_⟩:=T.t66;obtain⟨j,f1,f2,f3,f4,_⟩:=T.t126;have hd:∀d∈l.take z.toNat,d<4294967296:=fun d hd=>h.1 d (aQN hd)
 rcases h.2 with rfl|⟨rfl,hv⟩
 ·have hb:fN l.length l.length none (some (.int k z))=some (0,z.toNat):=by simp only[fN,hiE,asNat,loE];rw[if_pos ⟨h0,h1⟩]
  by_cases hz:z.toNat=0
  ·refine⟨.dx,?_,hd,.inr ⟨by rw[hz];rfl,.inr rfl⟩⟩;simp only[gg,e1,e2,f1,hb];rw[if_pos hz.symm]
  ·refine⟨.aK (cA (l.take z.toNat)) (l.take z.toNat).length,?_,hd,.inl rfl⟩;simp only[gg,e1,e2,f1,hb,f4];rw[if_neg (fun e=>hz e.symm)]
   have:min z.toNat l.length=z.toNat:=by omega
   simp[cA,List.map_take,this]
 ·have hz:z=0:=by simp at h1;omega
  subst hz;refine⟨v,?_,by simp,.inr ⟨rfl,hv⟩⟩;rcases hv with rfl|rfl<;>simp[gg,e1,e2,f1,fN,hiE,asNat,loE]
end
def wrap_i64{n:Int}(h0: -9223372036854775808<=n:=by omega)(h1:n<=9223372036854775807:=by omega):aW .i64 n=n:=IntWalk.i64_in _ ⟨h0,h1⟩
def aak:Code:=(match Tryz.f136.body with|some c=>c|none=>.skip)
def P8:E0.fn 136=some {code:=aak,ntmps:=21,results:=[.tmp 2],pure:=true,eE:=false}:=by kernel_rfl
def aem{E:Env}{ops rest:List Oper}{ts:List AV}{H:Hp}{q:List AV->Hp->Prop}{d t i0 i2 t1:Nat}{p:String}{af:Array Edge}{ti:sO}(ht:E.ty t1=some ti){e:Nat}(hu:ti.cD=.slice e)(ha:ti.isAgg=false):
  dZ E ops (⟨some d,.slice t1 (.tmp i0) none (some (.tmp i2)) none,t,p,af,none⟩::rest) ts H q=b8 (gg E t1 (gt ts i0) none (some (gt ts i2))) fun r=>dZ E ops rest (ts.set d r) H q:=by
 rw[TC ht (by rw[hu,ha]) ha];rfl
def iH(l:List Nat):List Nat:=(l.reverse.dropWhile (·==0)).reverse
def aeX{E:Env}(T:E5 E){v:AV}{l:List Nat}(h:eC v l)(hlen:l.length<1000000000000){ts:List AV}{H:Hp}(hl:ts.length=21)(g0:gt ts 0=v){Q:Ex->List AV->Hp->Prop}
  (hQ:∀ts' r,gt ts' 2=r->eC r (iH l)->Q .ret ts' H):Cv E aak ts H Q:=by
 obtain⟨i66,e1,e2,e3⟩:=T.t66;refine Cv.seq (Cv.run ?_);simp only[Ov,bZ];refine Cv.seq (Cv.block ?_);refine Cv.loop (fun k ts H'=>∃v l',k=l'.length/\eC v l'/\l'.length<=l.length/\iH l'=iH l/\ts.length=21/\gt ts 0=v/\H'=H) ?_ l.length _ _ ⟨v,l,rfl,h,aKE _,rfl,by simp[hl],by simp[aY,g0],rfl⟩;clear hl g0 h v ts;rintro k ts H' ⟨v,l',rfl,h,hle,Su,hl,g0,rfl⟩;refine Cv.seq (Cv.seq (Cv.run ?_));have fin:l'=[]∨(∃d l0,l'=l0++[d]/\d≠0)->iH l'=l':=by
  rintro(rfl|⟨d,l0,rfl,hd⟩)
  ·rfl
  ·unfold iH;rw[aQH];simp[hd]
 by_cases h0:0<l'.length
 ·have hd:decide ((l'.length:Int)>0)=true:=bh;have hw:aW .i64 ((l'.length:Int)-1)=((l'.length:Int)-1):=wrap_i64;have qz:=ji T h (k:=.i64) (z:=(l'.length:Int)-1);have M5:((l'.length:Int)-1).toNat=l'.length-1:=by omega
  rw[M5]at qz;simp only[gu,mW,BR,ael,AW,uV,qI,bZ,aS,cN,gE,aN,aY,aPI,DG,fu,pC,tc,aQl,aQm,aPf,Fe,beq_self_eq_true,lW,zx,L5,aa,ne_eq,ae,not_false_eq_true,bt,hl,g0,dG T h,hd,hw,qz,oz T (show l'.length-1<l'.length by omega)];refine Cv.cond (t:=((l'.getD (l'.length-1) 0:Nat):Int)==0) (by rw[aQ];simp only[aN,aPI,hl,aa]) ?_;obtain⟨l0,d,rfl⟩:∃l0 d,l'=l0++[d]:=⟨l'.dropLast,l'.getLast (by intro e;simp[e]at h0),by rw[aQK]⟩;have hg:(l0++[d]).getD ((l0++[d]).length-1) 0=d:=by simp[aQE]
  rw[hg];by_cases hz:d=0
  ·subst hz;have Ul:(((0:Nat):Int)==0)=true:=rfl;rw[Ul];simp only[if_true];refine Cv.skip ?_;refine Cv.block (Cv.run ?_);obtain⟨r,hr1,Ec⟩:=al6 T h (k:=.i64) (z:=((l0++[0]).length:Int)-1) (by omega) (by omega);rw[M5]at Ec;simp only[gu,mh,mW,AW,bZ,aS,cN,aN,aY,aPI,fu,lW,aa,ne_eq,ae,not_false_eq_true,hl,g0,dG T h,hw,aem e1 e2 e3,hr1];refine⟨l0.length,by simp,r,l0,rfl,by simpa using Ec,by simp at hle;omega,?_,by simp[],by simp[],by first|rfl|trivial⟩;rw[<-Su];unfold iH;rw[aQH]
   simp
  ·have eQ:(((d:Nat):Int)==0)=false:=by simp[hz]
   rw[eQ];simp only[aK4,if_false];refine Cv.exit ?_;simp only[if_true];refine Cv.seq (Cv.run ?_);simp only[gu,mh,bZ,aN,aY,aPI,aa,ne_eq,ae,not_false_eq_true,hl,g0];refine Cv.ret (hQ _ v (by simp[aN,hl]) ?_);rw[<-Su,fin (.inr ⟨d,l0,rfl,hz⟩)];exact h
 ·have hd:decide ((l'.length:Int)>0)=false:=bj;have tB:l'=[]:=by cases l' with
   |nil=>rfl
   |cons a t=>simp at h0
  simp only[gu,mW,BR,ael,AW,uV,qI,bZ,aS,cN,eJ,aN,aY,aPI,AT,fu,pC,tc,aQl,aQm,aPf,Fe,lW,zx,aa,ne_eq,ae,not_false_eq_true,bt,hl,g0,dG T h,hd,show(some false==some true)=false from rfl];refine Cv.cond (t:=false) (by rw[aQ];simp only[aN,aPI,hl,aa]) ?_;simp only[aK4,if_false];refine Cv.exit ?_;simp only[if_true];refine Cv.seq (Cv.run ?_);simp only[gu,mh,bZ,aN,aY,aPI,aa,ne_eq,ae,not_false_eq_true,hl,g0];refine Cv.ret (hQ _ v (by simp[aN,hl]) ?_);rw[<-Su,fin (.inl tB)];exact h
def val:List Nat->Nat
 |[]=>0
 |d::l=>d+4294967296*val l
def Norm(l:List Nat):Prop:=∀d l0,l=l0++[d]->d≠0
def mj(a b:List Nat):val (a++b)=val a+4294967296^a.length*val b:=by
 induction a with
 |nil=>simp[val]
 |cons d a ih=>simp only[aQv,val,ih,aLf,aQF];rw[aQp,Nat.add_assoc,Nat.mul_comm (4294967296^a.length) 4294967296,aQG]
def pM(l:List Nat):∃n,l=iH l++aKF n 0:=by
 unfold iH;have h:∀r:List Nat,∃n,r=aKF n 0++r.dropWhile (·==0):=by
  intro r;induction r with
  |nil=>exact⟨0,rfl⟩
  |cons d r ih=>
   by_cases hd:d=0
   ·obtain⟨n,hn⟩:=ih;refine⟨n+1,?_⟩;subst hd;simp only[List.dropWhile_cons,beq_self_eq_true,if_true,aQJ,aQv];rw[<-hn]
   ·refine⟨0,?_⟩
    have:(d==0)=false:=by simpa using hd
    simp[this]
 obtain⟨n,hn⟩:=h l.reverse;refine⟨n,?_⟩
 have:=congrArg List.reverse hn
 rw[aQO,aQH,List.reverse_replicate]at this;exact this
def iU(l:List Nat):Norm (iH l):=by
 intro d l0 h;unfold iH at h;have h2:=congrArg List.reverse h;rw[aQO,aQH]at h2;simp only[List.reverse_cons,List.reverse_nil,aQo,List.singleton_append]at h2;intro hd
 have:=List.head?_dropWhile_not (fun x:Nat=>x==0) l.reverse
 rw[h2]at this;simp[hd]at this
def Gv(n:Nat):val (aKF n 0)=0:=by
 induction n with
 |zero=>rfl
 |succ n ih=>simp[aQJ,val,ih]
def hJ(l:List Nat):val (iH l)=val l:=by
 obtain⟨n,hn⟩:=pM l
 have:=congrArg val hn
 rw[mj,Gv]at this;simpa using this.symm
def eB(v:AV)(z:Int):Prop:=∃(neg:Bool) (m:AV) (l:List Nat),v=.agg [.bool neg,m]/\eC m l/\Norm l/\(neg=true->l≠[])/\z=(if neg then-(val l:Int)else val l)
def oK{l:List Nat}(h:∀d∈l,d<4294967296):val l<4294967296^l.length:=by
 induction l with
 |nil=>simp[val]
 |cons d l ih=>
  have h1:=ih fun x hx=>h x (by simp[hx])
  have h2:=h d (by simp);simp only[val,aLf,aQF]
  have:4294967296*(val l+1)<=4294967296^l.length*4294967296:=by rw[Nat.mul_comm];exact Nat.mul_le_mul_right _ h1
  omega
def An{l:List Nat}(hn:Norm l)(eQ:l≠[]):4294967296^(l.length-1)<=val l:=by
 obtain⟨l0,d,rfl⟩:∃l0 d,l=l0++[d]:=⟨l.dropLast,l.getLast eQ,by rw[aQK]⟩;have hd:=hn d l0 rfl;rw[mj];simp only[val,List.length_append,aLf,aQk,aQQ,Nat.add_zero,aLg,Nat.add_sub_cancel]
 have:4294967296^l0.length*1<=4294967296^l0.length*d:=aQP _ (by omega)
 omega
def qP{l:List Nat}{i:Nat}(h:i<l.length):val l=val (l.take i)+4294967296^i*(l.getD i 0+4294967296*val (l.drop (i+1))):=by
 have e:l=l.take i++l.drop i:=(List.take_append_drop i l).symm;have h1:(l.take i).length=i:=by simp;omega
 conv=>lhs;rw[e]
 rw[mj,h1,aQI h];simp[val,aQE,h]
def Rx{a b:List Nat}(ha:∀d∈a,d<4294967296)(hl:a.length=b.length){i:Nat}(hi:i<a.length)(hd:a.drop (i+1)=b.drop (i+1))(ek:a.getD i 0<b.getD i 0):val a<val b:=by
 rw[qP hi,qP (show i<b.length by omega),hd];have h1:val (a.take i)<4294967296^i:=by
  have:=oK (l:=a.take i) fun d hd=>ha d (aQN hd)
  rwa[show(a.take i).length=i by simp;omega]at this
 have h2:4294967296^i*(a.getD i 0+4294967296*val (b.drop (i+1))+1)<=4294967296^i*(b.getD i 0+4294967296*val (b.drop (i+1))):=aQP _ (by omega);rw[aQp,aQS]at h2;omega
def vh{a b:List Nat}(ha:∀d∈a,d<4294967296)(hb:Norm b)(h:a.length<b.length):val a<val b:=by have h1:=oK ha;have h2:=An hb (by intro e;subst e;simp at h);have h3:4294967296^a.length<=4294967296^(b.length-1):=Nat.pow_le_pow_right (by omega) (by omega);omega
def mI(x y:Int):Int:=if x<y then-1 else if y<x then 1 else 0
def gW{E:Env}(h:Over E):E5 E:=by
 have h66:∃i,E0.ty 56=some i/\i.cD=.slice 177/\i.isAgg=false:=by
  obtain⟨i,hi⟩:∃i,E0.ty 56=some i:=aMm.1 (by kernel_rfl);have a1:(E0.ty 56).map (·.cD)=some (.slice 177):=by kernel_rfl
  have a2:(E0.ty 56).map (·.isAgg)=some false:=by kernel_rfl
  rw[hi]at a1 a2;exact⟨i,hi,by simpa using a1,by simpa using a2⟩
 have h126:∃i,E0.ty 177=some i/\i.cD=.int .u32/\i.isAgg=false/\i.size=1/\i.zero=some [.int .u32 0]/\i.bytes=4:=by
  obtain⟨i,hi⟩:∃i,E0.ty 177=some i:=aMm.1 (by kernel_rfl);have a1:(E0.ty 177).map (·.cD)=some (.int .u32):=by kernel_rfl
  have a2:(E0.ty 177).map (·.isAgg)=some false:=by kernel_rfl
  have a3:(E0.ty 177).map (·.size)=some 1:=by kernel_rfl
  have a4:(E0.ty 177).map (·.zero)=some (some [.int .u32 0]):=by kernel_rfl
  have a5:(E0.ty 177).map (·.bytes)=some 4:=by kernel_rfl
  rw[hi]at a1 a2 a3 a4 a5;exact⟨i,hi,by simpa using a1,by simpa using a2,by simpa using a3,by simpa using a4,by simpa using a5⟩
 exact⟨by rw[h.ty];exact h66,by rw[h.ty];exact h126⟩
def Zk:Code:=(match Tryz.f106.body with|some c=>c|none=>.skip)
def Jh:E0.fn 106=some {code:=Zk,ntmps:=41,results:=[.tmp 4],pure:=true,eE:=false}:=by kernel_rfl
def Zl{E:Env}(C:Ctx E){va vb:AV}{a b:List Nat}(ha:eC va a)(hb:eC vb b)(na:Norm a)(nb:Norm b)(la:a.length<1000000000000)(lb:b.length<1000000000000){ts:List AV}{H:Hp}(hl:ts.length=41)(g0:gt ts 0=va)(g1:gt ts 1=vb){Q:Ex->List AV->Hp->Prop}
  (hQ:∀ts',gt ts' 4=.int .i64 (mI (val a) (val b))->Q .ret ts' H):Cv E Zk ts H Q:=by
 have T:=gW C.toOver;refine Cv.seq (Cv.run ?_);simp only[mf,bZ];refine Cv.seq (Cv.seq (Cv.run ?_));simp only[gu,yI,AW,bZ,aS,cN,aN,aY,aPI,fu,aa,ne_eq,ae,not_false_eq_true,L7,hl,g0,g1,dG T ha,dG T hb];refine Cv.cond (t:=((a.length:Int)!=(b.length:Int))) (by rw[aQ];simp only[aN,aPI,hl,aa]) ?_;by_cases hlen:a.length=b.length
 ·have h1:((a.length:Int)!=(b.length:Int))=false:=by simp[hlen]
  rw[h1];simp only[aK4,if_false];refine Cv.skip ?_;refine Cv.seq (Cv.seq (Cv.run ?_));have hw:aW .i64 ((a.length:Int)-1)=((a.length:Int)-1):=wrap_i64;simp only[gu,mh,mW,AW,bZ,aS,cN,aN,aY,aPI,fu,lW,aa,ne_eq,ae,not_false_eq_true,hl,g0,dG T ha,hw];refine Cv.block (Cv.loop (fun k ts H'=>k<=a.length/\ts.length=41/\gt ts 0=va/\gt ts 1=vb/\gt ts 5=.int .i64 ((k:Int)-1)/\a.drop k=b.drop k/\H'=H) ?_ a.length _ _ ?_)
  rotate_left
  ·exact⟨aKE _,by simp[hl],by simp[aY,g0],by simp[aY,g1],by simp[aN,hl],by rw[aQU,hlen,aQU],rfl⟩
  clear hl g0 g1 ts;rintro k ts H' ⟨hk,hl,g0,g1,g5,Jo,rfl⟩;refine Cv.seq (Cv.seq (Cv.run ?_));simp only[gu,mW,bZ,aS,aN,aa,zw,hl,g5];refine Cv.cond (t:=decide ((k:Int)-1≥0)) (by rw[aQ];simp only[aN,aPI,hl,aa]) ?_;by_cases hk0:k=0
  ·have h2:decide ((k:Int)-1≥0)=false:=bj;rw[h2];simp only[aK4,if_false];refine Cv.exit ?_;simp only[if_true];refine Cv.seq (Cv.run ?_);simp only[mf,bZ];refine Cv.ret (hQ _ ?_);rw[aN (by simp[hl])];subst hk0;simp only[aQu]at Jo;subst Jo;unfold mI;rw[if_neg (by omega),if_neg (by omega)]
  ·have h2:decide ((k:Int)-1≥0)=true:=bh;rw[h2];simp only[if_true];refine Cv.skip ?_;have sD:=ji T ha (k:=.i64) (z:=(k:Int)-1);have Qd:=ji T hb (k:=.i64) (z:=(k:Int)-1);have M5:((k:Int)-1).toNat=k-1:=by omega
   rw[M5]at sD Qd;have z7:=fun H'=>oz T (l:=a) (H:=H') (n:=k-1)
   have LP:=fun H'=>oz T (l:=b) (H:=H') (n:=k-1)
   refine Cv.seq (Cv.block (Cv.seq (Cv.al0 rfl (by rw[C.pairs];rfl) ?_)));simp only[gu,yI,BR,ael,bZ,aS,aN,aY,aPI,aa,ne_eq,ae,not_false_eq_true,L7,hl,g0,g1,g5,sD,Qd,z7,LP];refine Cv.cond (t:=(((a.getD (k-1) 0:Nat):Int)!=((b.getD (k-1) 0:Nat):Int))) (by rw[aQ];simp only[aN,aPI,hl,aa]) ?_;have hka:k-1<a.length:=by omega
   have oT:a.drop (k-1)=a.getD (k-1) 0::a.drop k:=by rw[aQI hka,show k-1+1=k by omega];simp[aQE,hka]
   have hkb:k-1<b.length:=by omega
   have Io:b.drop (k-1)=b.getD (k-1) 0::b.drop k:=by rw[aQI hkb,show k-1+1=k by omega];simp[aQE,hkb]
   by_cases hd:a.getD (k-1) 0=b.getD (k-1) 0
   ·have h3:(((a.getD (k-1) 0:Nat):Int)!=((b.getD (k-1) 0:Nat):Int))=false:=by rw[hd];simp
    rw[h3];simp only[aK4,if_false];refine Cv.skip ?_;refine Cv.run ?_;have y7:aW .i64 ((k:Int)-1-1)=((k:Int)-1-1):=wrap_i64;simp only[gu,mh,mW,bZ,aS,aN,aY,aPI,lW,aa,ne_eq,ae,not_false_eq_true,hl,g5,y7];refine⟨k-1,by omega,by omega,by simp[],by simp[g0],by simp[g1],?_,by rw[oT,Io,hd,Jo],by first|rfl|trivial⟩
    first|(rw[aN (by simp[hl])];congr 1;omega)|(congr 1;omega)
   ·have h3:(((a.getD (k-1) 0:Nat):Int)!=((b.getD (k-1) 0:Nat):Int))=true:=by simp only[bne_iff_ne,ne_eq];omega
    rw[h3];simp only[if_true];refine Cv.seq (Cv.seq (Cv.al0 rfl (by rw[C.pairs];rfl) ?_));simp only[gu,yI,BR,ael,bZ,aS,aN,aY,aPI,ga,aa,ne_eq,ae,not_false_eq_true,hl,g0,g1,g5,sD,Qd,z7,LP];refine Cv.cond (t:=decide (((a.getD (k-1) 0:Nat):Int)<((b.getD (k-1) 0:Nat):Int))) (by rw[aQ];simp only[aN,aPI,hl,aa]) ?_;have hk1:k-1+1=k:=by omega
    by_cases ek:a.getD (k-1) 0<b.getD (k-1) 0
    ·have h4:decide (((a.getD (k-1) 0:Nat):Int)<((b.getD (k-1) 0:Nat):Int))=true:=bh;rw[h4];simp only[if_true];refine Cv.seq (Cv.run ?_);simp only[mf,bZ];refine Cv.ret (hQ _ ?_);rw[aN (by simp[hl])]
     have:=Rx ha.1 hlen hka (by rw[hk1];exact Jo) ek
     unfold mI;rw[if_pos (by omega)]
    ·have h4:decide (((a.getD (k-1) 0:Nat):Int)<((b.getD (k-1) 0:Nat):Int))=false:=bj;rw[h4];simp only[aK4,if_false];refine Cv.skip ?_;refine Cv.seq (Cv.run ?_);simp only[mf,bZ];refine Cv.ret (hQ _ ?_);rw[aN (by simp[hl])]
     have:=Rx hb.1 hlen.symm hkb (by rw[hk1];exact Jo.symm) (by omega)
     unfold mI;rw[if_neg (by omega),if_pos (by omega)]
 ·have h1:((a.length:Int)!=(b.length:Int))=true:=by simp;omega
  rw[h1];simp only[if_true];refine Cv.seq (Cv.seq (Cv.run ?_));simp only[gu,yI,AW,bZ,aS,cN,aN,aY,aPI,fu,ga,aa,ne_eq,ae,not_false_eq_true,hl,g0,g1,dG T ha,dG T hb];refine Cv.cond (t:=decide ((a.length:Int)<(b.length:Int))) (by rw[aQ];simp only[aN,aPI,hl,aa]) ?_;by_cases ek:a.length<b.length
  ·have h2:decide ((a.length:Int)<(b.length:Int))=true:=bh;rw[h2];simp only[if_true];refine Cv.seq (Cv.run ?_);simp only[mf,bZ];refine Cv.ret (hQ _ ?_)
   have:=vh ha.1 nb ek
   rw[aN (by simp[hl])];unfold mI;rw[if_pos (by omega)]
  ·have h2:decide ((a.length:Int)<(b.length:Int))=false:=bj;rw[h2];simp only[aK4,if_false];refine Cv.skip ?_;refine Cv.seq (Cv.run ?_);simp only[mf,bZ];refine Cv.ret (hQ _ ?_)
   have:=vh hb.1 na (by omega)
   rw[aN (by simp[hl])];unfold mI;rw[if_neg (by omega),if_pos (by omega)]
def rB{E:Env}(C:Ctx E){va vb:AV}{a b:List Nat}(ha:eC va a)(hb:eC vb b)(na:Norm a)(nb:Norm b)(la:a.length<1000000000000:=by omega)(lb:b.length<1000000000000:=by omega):
  ku E 106 [va,vb] (.int .i64 (mI (val a) (val b))):=by
 refine⟨fun fi h=>?_,?_⟩
 ·rw[C.fn,Jh]at h;cases h;rfl
 ·refine PF (C.ov 106 _ (by decide)) (by rw[C.fn];exact Jh) rfl ?_;refine Zl C ha hb na nb la lb rfl rfl rfl fun ts' h4=>⟨fun id h=>(by cases h),[.int .i64 (mI (val a) (val b))],[],?_,rfl⟩
  show some [gt ts' 4]=_
  rw[h4]
def aO{v:AV}{l:List Nat}(h:eC v l):aU v=true:=by
 rcases h.2 with rfl|⟨_,rfl|rfl⟩
 ·simp only[aU]
 ·rfl
 ·rfl
def je{E:Env}(C:Ctx E){v:AV}{l:List Nat}(h:eC v l)(hlen:l.length<1000000000000:=by omega):∃r,ku E 136 [v] r/\eC r (iH l):=by
 have:∃r,eC r (iH l)/\∃n,call E n 136 [v]=some r:=by
  have key:Cv E aak ([v]++aKF 20 bS) [] fun ex ts H=>∃r,eC r (iH l)/\(∀id,ex≠ .exit id)/\∃rs bs,fL H E ts [.tmp 2]=some rs/\bW H [gV rs]=some ([r],bs):=by
   refine aeX (gW C.toOver) h hlen rfl rfl fun ts' r h2 hr=>⟨r,hr,fun id h=>(by cases h),[r],[],?_,?_⟩
   ·show some [gt ts' 2]=_
    rw[h2]
   ·unfold bW;rw[show aV [gV [r]]=true by simp[aV,gV,aO hr]];rfl
  obtain⟨n,ex,ts,H,h1,r,hr,h2⟩:=key;exact⟨r,hr,PF (C.ov 136 _ (by decide)) (by rw[C.fn];exact P8) rfl ⟨n,ex,ts,H,h1,h2⟩⟩
 obtain⟨r,hr,n,hn⟩:=this;exact⟨r,⟨fun fi h=>(by rw[C.fn,P8]at h;cases h;rfl),n,hn⟩,hr⟩
def avf{E:Env}(C:Ctx E):∃pl,fA E 58=some pl/\pl 0=some (0,1)/\pl 1=some (1,1):=by
 have h:fA E 58=fA E0 58:=by unfold fA;rw[C.ty]
 rw[h];have a:(fA E0 58).map (fun f=>(f 0,f 1))=some (some (0,1),some (1,1)):=by kernel_rfl
 cases hp:fA E0 58 with
 |none=>rw[hp]at a;cases a
 |some pl=>rw[hp]at a;simp only[aLt,Option.some.injEq,Prod.mk.injEq]at a;exact⟨pl,rfl,a.1,a.2⟩
def aal{E:Env}(C:Ctx E):∃i,E.ty 58=some i/\i.isAgg=true/\i.size=2/\i.zero=some [.bool false,.aH]:=by
 rw[C.ty];obtain⟨i,hi⟩:∃i,E0.ty 58=some i:=aMm.1 (by kernel_rfl);have a1:(E0.ty 58).map (·.isAgg)=some true:=by kernel_rfl
 have a2:(E0.ty 58).map (·.size)=some 2:=by kernel_rfl
 have a3:(E0.ty 58).map (·.zero)=some (some [.bool false,.aH]):=by kernel_rfl
 rw[hi]at a1 a2 a3;exact⟨i,hi,by simpa using a1,by simpa using a2,by simpa using a3⟩
def bA{v:AV}{l:List Nat}(h:eC v l):v.cells=[v]/\cL v=true:=by
 rcases h.2 with rfl|⟨_,rfl|rfl⟩<;>exact⟨rfl,rfl⟩
def MD{pl:Nat->Option (Nat×Nat)}(p0:pl 0=some (0,1))(p1:pl 1=some (1,1)){b:Bool}{v:AV}{l:List Nat}(h:eC v l):fD pl [.bool false,.aH] [(0,.bool b),(1,v)]=some [.bool b,v]:=by
 simp[fD,p0,p1,AV.cells]
 have:=(bA h).1
 unfold AV.cells at this;simp[this]
def oP{E:Env}(C:Ctx E):eo E 58=some (.agg [.bool false,.aH]):=by obtain⟨i,h1,h2,_,h3⟩:=aal C;simp[eo,h1,h2,h3]
def Rp{E:Env}(C:Ctx E){H:Hp}{b:Nat}{c0 c1 x y:AV}(hb:H[b]?=some (.cells .live [c0,c1]))(hx:cL x=true)(hy:cL y=true):fe E H 58 (.bI b 0) (.agg [x,y])=some [(b,.cells .live [x,y])]:=by obtain⟨i,h1,h2,h4,h3⟩:=aal C;simp[fe,h1,hb,h4,AV.cells,hx,hy,cV]
def alm{E:Env}(C:Ctx E){H:Hp}{b:Nat}{x y:AV}(hb:H[b]?=some (.cells .live [x,y])):dW E H 58 (.bI b 0)=some (.agg [x,y]):=by obtain⟨i,h1,h2,h4,h3⟩:=aal C;simp[dW,yG,hb,gl,h1,h2,h4]
def signedC:Code:=(match Tryz.f104.body with|some c=>c|none=>.skip)
def R8:E0.fn 104=some {code:=signedC,ntmps:=15,results:=[.cell 4 58],pure:=true,eE:=false}:=by kernel_rfl
def iF{E:Env}(C:Ctx E){m:AV}{l:List Nat}(h:eC m l)(hlen:l.length<1000000000000)(neg:Bool):
  ∃r,ku E 104 [.bool neg,m] r/\eB r (if neg then-(val l:Int)else val l):=by
 refine Cj (C.ov 104 _ (by decide)) (by rw[C.fn];exact R8) rfl ?_;have T:=gW C.toOver;show Cv E signedC ([.bool neg,m]++aKF 13 bS) [] _
 generalize xk:[AV.bool neg,m]++aKF 13 bS=ts;have hl:ts.length=15:=by subst xk;rfl
 have g0:gt ts 0=.bool neg:=by subst xk;rfl
 have g1:gt ts 1=m:=by subst xk;rfl
 clear xk;obtain⟨r,hr,Ee⟩:=je C h hlen;obtain⟨pl,hp,p0,p1⟩:=avf C;obtain⟨i68,z1,_,_,z2⟩:=aal C;have hz:(E.ty 58).bind (·.zero)=some [.bool false,.aH]:=by rw[z1];exact z2
 refine Cv.seq (Cv.run ?_);simp only[bZ,aS,ne_eq,ZN,oP C];rw[show([]:Hp).length=0 from rfl,show(cC.bJ [(0,ct.cells oe.live (AV.agg [AV.bool false,AV.aH]).cells)]).app []=[.cells .live [.bool false,.aH]]from rfl];refine Cv.seq (Cv.run ?_);simp only[gu,aY,ne_eq,ae,not_false_eq_true,g1];refine alV (al:=[m]) (by simp only[km,aQ,aN,aPI,hl,aa]) (by simp[aV,aO h]) hr ?_;simp only[mh,bZ,aN,aPI,aa,hl];refine Cv.seq (Cv.run ?_);have ek:(iH l).length<1000000000000:=by
  obtain⟨n,hn⟩:=pM l
  have:=congrArg List.length hn
  simp at this;omega
 have fin:∀(b:Bool) (ts':List AV),b=(neg&&decide (0<(iH l).length))->gt ts' 4=.bI 0 0->(∀id,Ex.ret≠ .exit id)/\∃rs r' bs,fL [.cells .live [.bool b,r]] E ts' [.cell 4 58]=some rs/\bW [.cells .live [.bool b,r]] [gV rs]=some ([r'],bs)/\eB r' (if neg then-(val l:Int)else val l):=by
  intro b ts' hb h4;refine⟨fun id h=>(by cases h),[.agg [.bool b,r]],.agg [.bool b,r],[],?_,Ji (by simp[aU,aV,gV,aO Ee]),b,r,iH l,rfl,Ee,iU l,?_,?_⟩
  ·have h4':ts'[4]?.getD bS=.bI 0 0:=h4;simp only[fL,h4',alm C (H:=[.cells .live [.bool b,r]]) (b:=0) (x:=.bool b) (y:=r) rfl]
  ·intro mN tB;rw[hb,tB]at mN;simp at mN
  ·rw[hJ,hb];cases neg with
   |false=>simp
   |true=>
    by_cases h0:0<(iH l).length
    ·simp[h0]
    ·have tB:iH l=[]:=by cases ht:iH l with
      |nil=>rfl
      |cons a t=>rw[ht]at h0;simp at h0
     have hv:=hJ l;rw[tB]at hv;simp only[val]at hv;simp[h0,<-hv]
 cases neg with
 |true=>
  have hd:decide (((iH l).length:Int)>0)=decide (0<(iH l).length):=by congr 1;simp
  simp only[gu,mW,AW,uV,qI,aS,cN,gE,aN,aY,aPI,DG,fu,pC,tc,aQl,aQm,aPf,Fe,beq_self_eq_true,zx,aa,ne_eq,ae,not_false_eq_true,bt,hl,g0,dG T Ee,hd];rw[Rb hp hz (vs:=[(0,.bool (decide (0<(iH l).length))),(1,r)]) (by simp only[sC,aQ,aN,aY,aPI,hl,aa,ne_eq,ae,not_false_eq_true]) (MD p0 p1 Ee)];simp only[bZ,de,aN,aY,aPI,aa,ne_eq,ae,not_false_eq_true,Rc,hl,Rp C (H:=[.cells .live [.bool false,.aH]]) (b:=0) (c0:=.bool false) (c1:=.aH) rfl (show cL (.bool (decide (0<(iH l).length)))=true from rfl) (bA Ee).2];refine Cv.ret (fin (decide (0<(iH l).length)) _ (by simp) (by simp[aN,aY,hl]))
 |false=>
  simp only[gu,mW,AW,uV,qI,aS,eJ,aN,aY,aPI,AT,pC,tc,aQl,aQm,aPf,Fe,aa,ne_eq,ae,not_false_eq_true,bt,hl,g0,show(some false==some true)=false from rfl];rw[Rb hp hz (vs:=[(0,.bool false),(1,r)]) (by simp only[sC,aQ,aN,aY,aPI,hl,aa,ne_eq,ae,not_false_eq_true]) (MD p0 p1 Ee)];simp only[bZ,de,aN,aY,aPI,aa,ne_eq,ae,not_false_eq_true,Rc,hl,Rp C (H:=[.cells .live [.bool false,.aH]]) (b:=0) (c0:=.bool false) (c1:=.aH) rfl (show cL (.bool false)=true from rfl) (bA Ee).2];refine Cv.ret (fin false _ (by simp) (by simp[aN,aY,hl]))
def cellAt:Hp->Nat->Nat->Option AV
 |.cells .live cs::_,0,o=>cs[o]?
 |.cells .ro cs::_,0,o=>cs[o]?
 |_::H,b+1,o=>cellAt H b o
 |_,_,_=>none
def ef{cs:List AV}{H:Hp}{o:Nat}:cellAt (.cells .live cs::H) 0 o=cs[o]?:=rfl
def V0{cs:List AV}{H:Hp}{o:Nat}:cellAt (.cells .ro cs::H) 0 o=cs[o]?:=rfl
def iW{x:ct}{H:Hp}{b o:Nat}:cellAt (x::H) (b+1) o=cellAt H b o:=by cases x<;>(try rfl);rename_i s cs;cases s<;>rfl
def bX:∀{H:Hp} {b o:Nat},cellAt H b o=(match H[b]? with|some (.cells st cs)=>if st=.dead then none else cs[o]?|_=>none)
 |[],b,o=>by cases b<;>rfl
 |x::H,b+1,o=>by rw[iW,bX];simp
 |x::H,0,o=>by
  cases x with
  |cells st cs=>cases st<;>rfl
  |_=>rfl
def One(E:Env)(t:Nat):Prop:=∃i,E.ty t=some i/\i.isAgg=false/\i.size=1
def gC{E:Env}{t:Nat}(h:One E t){H:Hp}{b o:Nat}:dW E H t (.bI b o)=cellAt H b o:=by
 obtain⟨i,h1,h2,_⟩:=h;rw[bX];unfold dW yG;simp only;cases H[b]? with
 |none=>rfl
 |some x=>
  cases x with
  |cells st cs=>
   simp only;by_cases hd:st=.dead
   ·simp only[hd,if_true]
   ·simp only[hd,if_false,gl,h1,h2];rfl
  |_=>rfl
def Qp(E:Env)(t:Nat):Bool:=match E.ty t with
 |some i=>!i.isAgg&&i.size==1
 |none=>false
def alE{E:Env}{t:Nat}(h:Qp E t=true):One E t:=by
 unfold Qp at h;cases hi:E.ty t with
 |none=>rw[hi]at h;cases h
 |some i=>
  rw[hi]at h;simp only[aMh,Bool.not_eq_true',beq_iff_eq]at h;exact⟨i,hi,h.1,h.2⟩
def Q1{E:Env}(C:Ctx E){t:Nat}(h:Qp E0 t=true:=by kernel_rfl):One E t:=by refine alE ?_;unfold Qp at h⊢;rw[C.ty];exact h
def EX{E:Env}(C:Ctx E):One E 4:=Q1 C
def auV{E:Env}(C:Ctx E):One E 3:=Q1 C
def vV{E:Env}(C:Ctx E):One E 56:=Q1 C
def Nf(E:Env)(t n:Nat):Bool:=match E.ty t with
 |some i=>i.isAgg&&i.size==n
 |none=>false
def anZ{E:Env}(C:Ctx E){t n:Nat}(h:Nf E0 t n=true):Nf E t n=true:=by unfold Nf at h⊢;rw[C.ty];exact h
def eP(n:Nat):Hp->Nat->Nat->Option AV
 |.cells .live cs::_,0,o=>if o+n<=cs.length then some (.agg ((cs.drop o).take n))else none
 |.cells .ro cs::_,0,o=>if o+n<=cs.length then some (.agg ((cs.drop o).take n))else none
 |_::H,b+1,o=>eP n H b o
 |_,_,_=>none
def kI{n:Nat}{cs:List AV}{H:Hp}{o:Nat}:eP n (.cells .live cs::H) 0 o=if o+n<=cs.length then some (.agg ((cs.drop o).take n))else none:=rfl
def abj{n:Nat}{cs:List AV}{H:Hp}{o:Nat}:eP n (.cells .ro cs::H) 0 o=if o+n<=cs.length then some (.agg ((cs.drop o).take n))else none:=rfl
def nM{n:Nat}{x:ct}{H:Hp}{b o:Nat}:eP n (x::H) (b+1) o=eP n H b o:=by cases x<;>(try rfl);rename_i s cs;cases s<;>rfl
def dA{n:Nat}:∀{H:Hp} {b o:Nat},eP n H b o=(match H[b]? with|some (.cells st cs)=>if st=.dead then none else if o+n<=cs.length then some (.agg ((cs.drop o).take n))else none|_=>none)
 |[],b,o=>by cases b<;>rfl
 |x::H,b+1,o=>by rw[nM,dA];simp
 |x::H,0,o=>by
  cases x with
  |cells st cs=>cases st<;>rfl
  |_=>rfl
def nv{E:Env}{t n:Nat}(h:Nf E t n=true){H:Hp}{b o:Nat}:dW E H t (.bI b o)=eP n H b o:=by
 unfold Nf at h;cases hi:E.ty t with
 |none=>rw[hi]at h;cases h
 |some i=>
  rw[hi]at h;simp only[aMh,beq_iff_eq]at h;obtain⟨h1,rfl⟩:=h;rw[dA];unfold dW yG;simp only;cases H[b]? with
  |none=>rfl
  |some x=>
   cases x with
   |cells st cs=>
    simp only;by_cases hd:st=.dead
    ·simp only[hd,if_true]
    ·simp only[hd,if_false,gl,hi,h1,if_true]
   |_=>rfl
def gT(n:Nat)(xs:List AV):Hp->Nat->Nat->Option ct
 |.cells .live cs::_,0,o=>if(xs.length==n&&(decide (o+n<=cs.length)&&xs.all cL))=true then some (.cells .live (cV cs o xs))else none
 |_::H,b+1,o=>gT n xs H b o
 |_,_,_=>none
def kj{n:Nat}{xs cs:List AV}{H:Hp}{o:Nat}:gT n xs (.cells .live cs::H) 0 o=if(xs.length==n&&(decide (o+n<=cs.length)&&xs.all cL))=true then some (.cells .live (cV cs o xs))else none:=rfl
def nD{n:Nat}{xs:List AV}{x:ct}{H:Hp}{b o:Nat}:gT n xs (x::H) (b+1) o=gT n xs H b o:=by cases x<;>(try rfl);rename_i s cs;cases s<;>rfl
def dX{n:Nat}{xs:List AV}:∀{H:Hp} {b o:Nat},gT n xs H b o=(match H[b]? with|some (.cells .live cs)=>if(xs.length==n&&(decide (o+n<=cs.length)&&xs.all cL))=true then some (.cells .live (cV cs o xs))else none|_=>none)
 |[],b,o=>by cases b<;>rfl
 |x::H,b+1,o=>by rw[nD,dX];simp
 |x::H,0,o=>by
  cases x with
  |cells st cs=>cases st<;>rfl
  |_=>rfl
def JG(E:Env)(t n:Nat):Bool:=match E.ty t with
 |some i=>i.size==n
 |none=>false
def avx{E:Env}(C:Ctx E){t n:Nat}(h:JG E0 t n=true:=by kernel_rfl):JG E t n=true:=by unfold JG at h⊢;rw[C.ty];exact h
def jC{E:Env}{t n:Nat}(h:JG E t n=true){H:Hp}{b o:Nat}{v:AV}:fe E H t (.bI b o) v=(gT n v.cells H b o).map fun x=>[(b,x)]:=by
 unfold JG at h;cases hi:E.ty t with
 |none=>rw[hi]at h;cases h
 |some i=>
  rw[hi]at h;simp only[beq_iff_eq]at h;subst h;rw[dX];unfold fe;simp only[hi];cases H[b]? with
  |none=>rfl
  |some x=>
   cases x with
   |cells st cs=>
    cases st with
    |live=>
     simp only;by_cases h1:v.cells.length=i.size<;>by_cases h2:o+i.size<=cs.length<;>cases h3:v.cells.all cL<;>simp[h1,h2]<;>omega
    |_=>rfl
   |_=>rfl
def cp{b:Nat}{x:ct}{H:Hp}:(cC.bJ [(b,x)]).app H=cJ H b x:=rfl
def jL{b:Nat}{x y:ct}{H:Hp}:cJ (y::H) (b+1) x=y::cJ H b x:=by
 unfold cJ;simp only[aLf,Nat.add_lt_add_iff_right,List.set_cons_succ,aQv]
 split<;>rfl
def eK{x y:ct}{H:Hp}:cJ (y::H) 0 x=x::H:=by
 unfold cJ
 simp
def avv:(some true==some true)=true:=rfl
def ahc:(some false==some true)=false:=rfl
def avu:(some true==some false)=false:=rfl
def avt:(some false==some false)=true:=rfl
def fW{cs xs:List AV}{o:Nat}:cV cs o xs=cs.take o++xs++cs.drop (o+xs.length):=rfl
def B9{E:Env}(C:Ctx E):Nf E 58 2=true:=anZ C (by kernel_rfl)
def DU{E:Env}(C:Ctx E):JG E 58 2=true:=avx C
def PE{E:Env}(C:Ctx E){b:Bool}{v:AV}{l:List Nat}(h:eC v l):eN E 58 [(0,.bool b),(1,v)]=some (.agg [.bool b,v]):=by obtain⟨pl,hp,p0,p1⟩:=avf C;obtain⟨i68,z1,_,_,z2⟩:=aal C;unfold eN;rw[hp,show(E.ty 58).bind (·.zero)=some [.bool false,.aH]by rw[z1];exact z2];simp only[MD p0 p1 h,aLt]
def isBool(E:Env)(t:Nat):Bool:=match E.ty t with
 |some i=>(match i.cD with|.bool=>true|_=>false)
 |none=>false
def Va{E:Env}(C:Ctx E){t:Nat}(h:isBool E0 t=true:=by kernel_rfl):isBool E t=true:=by unfold isBool at h⊢;rw[C.ty];exact h
def PU{E:Env}{t n:Nat}(h:isBool E t=true){a b:Bool}:qi E (n+1) t (.bool a) (.bool b)=some (a==b):=by
 unfold isBool at h;cases hi:E.ty t with
 |none=>rw[hi]at h;cases h
 |some i=>
  rw[hi]at h;obtain⟨cD,jA,jS,jB,jZ,dQ⟩:=i;cases cD<;>first|(cases h;done)|simp[qi,hi]
def uv{E:Env}{c:Bool}{t:Nat}(h:isBool E t=true){a b:Bool}:cd E c .neq t (.bool a) (.bool b)=some (.bool (a !=b)):=by
 simp only[cd,cd.rY,aPf,if_true,PU h,aLt];cases a<;>cases b<;>rfl
def xP{E:Env}{c:Bool}{t:Nat}(h:isBool E t=true){a b:Bool}:cd E c .eql t (.bool a) (.bool b)=some (.bool (a==b)):=by simp only[cd,cd.rY,aPf,if_true,PU h,aLt]
def Fj{E:Env}(C:Ctx E):isBool E 4=true:=Va C
def Dt{b:Bool}:cL (.bool b)=true:=rfl
def aqK{E:Env}(C:Ctx E){b o:Nat}:cP E 58 (.bI b o) 0=some (.bI b o)/\cP E 58 (.bI b o) 1=some (.bI b (o+1)):=by
 have h:∀f,cP E 58 (.bI b o) f=(cP E0 58 (.bI 0 0) f).bind fun v=>match v with|.bI _ k=>some (.bI b (o+k))|_=>none:=by
  intro f;unfold cP;rw[C.ty];cases E0.ty 58 with
  |none=>rfl
  |some i=>
   obtain⟨cD,jA,jS,jB,jZ,dQ⟩:=i;cases cD<;>try rfl
   rename_i fs;simp only;cases fs[f]? with
   |none=>rfl
   |some fd=>
    simp only;cases E0.ty fd.type with
    |none=>rfl
    |some fi=>
     simp only;by_cases hz:fi.size=0
     ·simp only[hz,if_true];rfl
     ·simp only[hz,if_false,aLg];rfl
 rw[h 0,h 1,show cP E0 58 (.bI 0 0) 0=some (.bI 0 0)by kernel_rfl,show cP E0 58 (.bI 0 0) 1=some (.bI 0 1)by kernel_rfl];exact⟨rfl,rfl⟩
def pQ{E:Env}(C:Ctx E){b o:Nat}:cP E 58 (.bI b o) 0=some (.bI b o):=(aqK C).1
def pR{E:Env}(C:Ctx E){b o:Nat}:cP E 58 (.bI b o) 1=some (.bI b (o+1)):=(aqK C).2
def fk{l:List AV}:(AV.agg l).cells=l:=rfl
def Rl(z:Int):Int:=if z=0 then 0 else if z<0 then-1 else 1
def BY{l:List Nat}(hn:Norm l)(eQ:l≠[]):0<val l:=by
 have:=An hn eQ
 have h2:0<4294967296^(l.length-1):=Nat.pow_pos (by omega);omega
def Fit(z:Int):Prop:=∃n,n<10000000000/\z.natAbs<4294967296^n
def uD{l:List Nat}{z:Int}(hn:Norm l)(hz:z.natAbs=val l)(h:Fit z):l.length<10000000001:=by
 obtain⟨n,h1,h2⟩:=h;by_cases he:l=[]
 ·subst he;simp
 ·have h3:=An hn he;have h4:l.length-1<n:=by
   have:4294967296^(l.length-1)<4294967296^n:=by omega
   exact(Nat.pow_lt_pow_iff_right (by omega)).1 this
  omega
def nh{b:Bool}{n:Nat}:(if b=true then-(n:Int)else(n:Int)).natAbs=n:=by cases b<;>simp
def Z3:Code:=(match Tryz.f101.body with|some c=>c|none=>.skip)
def acR:E0.fn 101=some {code:=Z3,ntmps:=11,results:=[.tmp 2],pure:=true,eE:=false}:=by kernel_rfl
def jX{E:Env}(C:Ctx E){v:AV}{z:Int}(h:eB v z):aR E 101 [v]=some (.int .i64 (Rl z)):=by
 suffices hh:∃r,aR E 101 [v]=some r/\r=.int .i64 (Rl z)by obtain⟨r,h1,rfl⟩:=hh;exact h1
 obtain⟨neg,m,l,rfl,hm,hn,oZ,rfl⟩:=h;refine fn1 (C.ov 101 _ (by decide)) (by rw[C.fn];exact acR) rfl (by decide) ?_;intro ts hl g0;have T:=gW C.toOver;show W E Z3 ts [] _
 unfold Z3;simp only[Tryz.f101,eY,nG,ft,er,eX,cO,ec,B4,fj,sI,dE,jf,jx,gJ,rJ,tL,cT,AE,fT,fP,CS,dP,bZ,aS,cN,bP,dd,aQ,dh,dO,gA,cB,fF,mE,aV,aU,aQq,nN,bt,aN,aY,aPI,aQl,aQm,L5,aa,ne_eq,ae,not_false_eq_true,fk,aQo,aLf,aQk,aLg,bC,aQn,hl,g0,pQ C,pR C,gC (EX C),gC (vV C),ef,dG T hm];by_cases hz:l=[]
 ·subst hz;cases neg
  ·rfl
  ·exact absurd rfl (oZ rfl)
 ·have h0:((l.length:Int)==0)=false:=by
   cases l with
   |nil=>exact absurd rfl hz
   |cons a t=>simp;omega
  have hv:=BY hn hz;rw[h0];unfold Rl;cases neg
  ·simp only[aK4,if_false];rw[if_neg (by omega),if_neg (by omega)]
  ·simp only[aK4,if_false,if_true];rw[if_neg (by omega),if_pos (by omega)]
def alu:Code:=(match Tryz.f108.body with|some c=>c|none=>.skip)
def ajJ:E0.fn 108=some {code:=alu,ntmps:=15,results:=[.cell 2 58],pure:=true,eE:=false}:=by kernel_rfl
def Dr{E:Env}(C:Ctx E){v:AV}{z:Int}(h:eB v z):∃r,aR E 108 [v]=some r/\eB r (-z):=by
 obtain⟨neg,m,l,rfl,hm,hn,oZ,rfl⟩:=h;refine fn1 (C.ov 108 _ (by decide)) (by rw[C.fn];exact ajJ) rfl (by decide) ?_;intro ts hl g0;have T:=gW C.toOver;show W E alu ts [] _
 unfold alu;have key:∀b:Bool,b=(!neg&&decide ((l.length:Int)>0))->eB (.agg [.bool b,m]) (-(if neg=true then-(val l:Int)else val l)):=by
  intro b hb;refine⟨b,m,l,rfl,hm,hn,?_,?_⟩
  ·intro h1 h2;subst h2;simp[hb]at h1
  ·by_cases hz:l=[]
   ·subst hz;cases neg<;>cases b<;>simp[val]
   ·have:0<l.length:=by cases l with
     |nil=>exact absurd rfl hz
     |cons a t=>simp
    have h1:decide ((l.length:Int)>0)=true:=bh;rw[h1,aQq]at hb;subst hb;cases neg<;>simp
 cases neg
 ·simp only[Tryz.f108,↓reduceIte,nG,ft,cO,ec,jf,jx,gJ,jM,tL,eO,W5,mA,AE,fT,eR,fP,R9,CS,P9,dP,qI,bZ,aS,cN,de,gE,bP,fM,dd,aQ,dh,CA,dO,gA,CC,CB,cB,kM,Q8,fF,mE,aV,aU,aQq,aQx,aQz,nN,bt,aN,aY,aPI,pC,tc,aQl,aQm,aPf,Fe,beq_self_eq_true,zx,OW,aa,ah,ne_eq,ae,not_false_eq_true,fk,aQo,aQv,aLf,aQk,aLg,bC,aQn,ef,kI,nM,kj,nD,cp,jL,eK,fW,Dt,aLt,aPa,aQC,aQr,aQy,aQs,aQu,aQA,aQw,aKE,decide_true,aQB,hl,g0,pQ C,pR C,gC (EX C),gC (vV C),dG T hm,oP C,Bool.not_false,nv (B9 C),jC (DU C),PE C hm,(bA hm).2,aO hm];exact key _ rfl
 ·simp only[Tryz.f108,↓reduceIte,nG,ft,cO,ec,jf,jx,gJ,jM,tL,eO,W5,mA,AE,fT,eR,fP,R9,CS,P9,dP,qI,bZ,aS,cN,de,eJ,bP,fM,dd,aQ,dh,CA,dO,gA,CC,CB,cB,kM,Q7,fF,mE,aV,aU,aQq,aQx,aQz,nN,bt,aN,aY,aPI,pC,tc,aQl,aQm,aPf,Fe,beq_self_eq_true,zx,OW,aa,ah,ne_eq,ae,not_false_eq_true,fk,aQo,aQv,aLf,aQk,aLg,bC,aQn,ef,kI,nM,kj,nD,cp,jL,eK,ahc,fW,Dt,aLt,aPa,aQC,aQr,aQy,aQs,aQu,aQA,aQw,aKE,decide_true,aQB,hl,g0,pQ C,pR C,gC (EX C),gC (vV C),dG T hm,oP C,Bool.not_true,nv (B9 C),jC (DU C),PE C hm,(bA hm).2,aO hm];exact key _ rfl
def Cq:Code:=(match Tryz.f102.body with|some c=>c|none=>.skip)
def MI:E0.fn 102=some {code:=Cq,ntmps:=26,results:=[.tmp 4],pure:=true,eE:=false}:=by kernel_rfl
def iK{E:Env}(C:Ctx E){v w:AV}{x y:Int}(h:eB v x)(k:eB w y)(fx:Fit x)(fy:Fit y):aR E 102 [v,w]=some (.int .i64 (mI x y)):=by
 suffices hh:∃r,aR E 102 [v,w]=some r/\r=.int .i64 (mI x y)by obtain⟨r,h1,rfl⟩:=hh;exact h1
 obtain⟨na,m,a,rfl,hm,hn,oZ,rfl⟩:=h;obtain⟨nb,m',b,rfl,kq,xg,Jt,rfl⟩:=k;refine fn2 (C.ov 102 _ (by decide)) (by rw[C.fn];exact MI) rfl (by decide) ?_;intro ts hl g0 g1;have T:=gW C.toOver;show W E Cq ts [] _
 unfold Cq;have la:=uD hn nh fx;have lb:=uD xg nh fy;have o1:=dB (rB C hm kq hn xg);have o2:=dB (rB C kq hm xg hn);simp only[Tryz.f102,eY,nG,ft,er,eX,cO,ec,B4,fj,sI,dE,jf,jx,gJ,rJ,tL,cT,AE,fT,fP,CS,ou,bZ,aS,bP,dd,k9,aQ,dh,lu,dO,gA,cB,fF,mE,aV,aU,aQq,aQx,sU,bt,aN,aY,aPI,aQl,aQm,aa,ne_eq,ae,not_false_eq_true,fk,aQo,aQv,aLf,aQk,aLg,bC,aQt,ef,iW,hl,g0,g1,pQ C,pR C,gC (EX C),gC (vV C),aO hm,aO kq,o1,o2,uv (Fj C)];have pa:na=true->0<val a:=fun h=>BY hn (oZ h)
 have pb:nb=true->0<val b:=fun h=>BY xg (Jt h)
 unfold mI;cases na<;>cases nb<;>simp only[bne_self_eq_false,aK4,if_false,if_true,Bool.false_bne,Bool.bne_false,AV.int.injEq,true_and]
 ·have:=pb rfl;repeat' split<;>first|rfl|omega
 ·have:=pa rfl;repeat' split<;>first|rfl|omega
 ·repeat' split<;>first|rfl|omega
def zY{E:Env}(C:Ctx E){t:Nat}{k:IntKind}(h:gk E0 t=some k:=by kernel_rfl):gk E t=some k:=by unfold gk at h⊢;rw[C.ty];exact h
def eg{E:Env}{ops rest:List Oper}{ts:List AV}{H:Hp}{q:List AV->Hp->Prop}{d:Option Nat}{t:Nat}{p:String}{af:Array Edge}{s1 d1:Nat}{k0 k':IntKind}{x:Operand}(hs:gk E s1=some k0)(hd:gk E d1=some k'):
  dZ E ops (⟨d,.convert s1 d1 x,t,p,af,none⟩::rest) ts H q=b8 (bT ts x) fun a=>b8 (toK k' a) fun v=>dZ E ops rest (bt d v ts) H q:=by
 rw[nJ rfl (by intro c h;cases h)];simp only[dH];unfold gk at hs hd;cases h1:E.ty s1 with
 |none=>rw[h1]at hs;cases hs
 |some si=>
  cases h2:E.ty d1 with
  |none=>rw[h2]at hd;cases hd
  |some di=>
   rw[h1]at hs;rw[h2]at hd;obtain⟨cD,jA,jS,jB,jZ,dQ⟩:=si;obtain⟨aan,X6,ahd,Vf,ahn,af0⟩:=di;cases cD<;>first|(cases hs;done)|skip
   cases aan<;>first|(cases hd;done)|skip
   simp only[Option.some.injEq]at hd;subst hd;cases bT ts x with
   |none=>rfl
   |some v=>cases v<;>simp[Cr,h1,h2,toK,b8,Em,nN]
def qp{E:Env}(C:Ctx E):gk E 177=some .u32/\gk E 178=some .u64/\gk E 2=some .i64/\gk E 3=some .i64:=
 ⟨zY C,zY C,zY C,zY C⟩
def alz{E:Env}(C:Ctx E):One E 177:=Q1 C
def sd{E:Env}(C:Ctx E):JG E 177 1=true:=avx C
def Re{n:Nat}:gD [.int .u32 0] n=cA (aKF n 0):=by
 induction n with
 |zero=>rfl
 |succ n ih=>
  rw[aQJ];show _=AV.int .u32 0::cA (aKF n 0)
  rw[<-ih];rfl
def Y1{E:Env}(C:Ctx E){aP:Nat}{k k':IntKind}{n:Nat}(h:n<100000000000):fp E aP 56 (.int k (n:Int)) (.int k' (n:Int))=some (.aI aP 0 n 1 n,[(aP,.cells .live (cA (aKF n 0)))]):=by have T:=gW C.toOver;obtain⟨i,e1,e2,e3⟩:=T.t66;obtain⟨j,f1,f2,f3,f4,f5,f6⟩:=T.t126;obtain⟨cD,jA,jS,jB,jZ,dQ⟩:=i;simp only at e2;subst e2;simp only[fp,e1,f1,f5,f6,f4];rw[if_pos ⟨by omega,Int.le_refl _,by unfold eU;simp only[aQD];omega,by omega,rfl,by omega⟩];simp[Re]
def JH{E:Env}(C:Ctx E){b n:Nat}{k:IntKind}{z:Int}(h0:0<=z:=by omega)(h1:z<(n:Int):=by omega):b9 E 56 (.aI b 0 n 1 n) (.int k z)=some (.bI b z.toNat):=by
 have T:=gW C.toOver;obtain⟨i,e1,e2,_⟩:=T.t66;obtain⟨j,f1,f2,f3,f4,_⟩:=T.t126;simp only[b9,e1,e2,f1,f4];by_cases hz:0<=z/\z<(n:Int)
 ·simp[hz]
 ·exact absurd ⟨h0,h1⟩ hz
def mY{l:List Nat}:(cA l).length=l.length:=by simp[cA]
def uc{l:List Nat}{i x:Nat}(h:i<l.length):cV (cA l) i [.int .u32 (x:Int)]=cA (l.set i x):=by unfold cV cA;rw[List.set_eq_take_append_cons_drop,if_pos h];simp[List.map_take,List.map_drop]
def KD{H:Hp}{m:Nat}:∀{l:List Nat},eZ (fz H (m+1)) (cA l)=some ((cA l).map fun v=>(v,[]))
 |[]=>rfl
 |x::l=>by
  have hx:fz H (m+1) (AV.int .u32 x)=some (.int .u32 x,[]):=rfl;show eZ (fz H (m+1)) (AV.int .u32 x::cA l)=some ((AV.int .u32 x::cA l).map fun v=>(v,[]))
  unfold eZ;rw[hx,KD (l:=l)];rfl
def WX{H:Hp}{n b off len esz k:Nat}{st:oe}{cs:List AV}{r:List (AV×List Nat)}(h:H[b]?=some (.cells st cs))(hd:st≠ .dead)(hl:¬cs.length<off+len*esz)(hr:eZ (fz H n) ((cs.drop off).take (len*esz))=some r):
  fz H (n+1) (.aI b off len esz k)=some (.aK (r.map (·.1)) len,b::r.flatMap (·.2)):=by
 unfold fz;simp only[h,hr];rw[if_neg (by simp[hd];omega)];rfl
def tv{H:Hp}{b:Nat}{l:List Nat}{st:oe}(h:H[b]?=some (.cells st (cA l)))(hd:st≠ .dead:=by decide):bW H [.aI b 0 l.length 1 l.length]=some ([.aK (cA l) l.length],[b]):=by
 have h2:List.take (l.length*1) (List.drop 0 (cA l))=cA l:=by rw[aQu,aQS,<-mY (l:=l),List.take_length]
 have h3:=WX (n:=39) (off:=0) (len:=l.length) (esz:=1) (k:=l.length) h hd (by rw[mY];omega) (by rw[h2];exact KD);unfold bW;rw[show aV [AV.aI b 0 l.length 1 l.length]=false by simp[aV,aU]];simp only[aK4,if_false];unfold eZ;rw[h3];have h4:((cA l).map fun v=>(v,([]:List Nat))).map (·.1)=cA l:=by rw[List.map_map];exact List.map_id _
 have h5:∀m:List AV,(m.map fun v=>(v,([]:List Nat))).flatMap (·.2)=[]:=by
  intro m;induction m with
  |nil=>rfl
  |cons a m ih=>rw[List.map_cons,List.flatMap_cons,ih];rfl
 rw[h4,h5];rfl
def wrap_u32{n:Nat}:aW .u32 (n:Int)=((n%4294967296:Nat):Int):=by
 show IntKind.u32.wrap _=_
 rw[IntKind.wrap_u32];omega
def wrap_u64{n:Nat}(h1:n<18446744073709551616:=by omega):aW .u64 (n:Int)=n:=IntWalk.u64_in _ ⟨by omega,by omega⟩
def jI{E:Env}{c:Bool}{t:Nat}{a:Nat}{k:IntKind}:cd E c .shr t (.int .u64 (a:Nat)) (.int k 32)=some (.int .u64 ((a/4294967296:Nat):Int)):=by
 simp only[cd];rw[if_neg (by decide)]
 have:(min (Int.toNat 32) IntKind.u64.bits)=32:=by decide
 rw[this];congr 2;show Int.fdiv (a:Int) ((2:Int)^32)=_
 rw[Int.fdiv_eq_ediv_of_nonneg _ (by decide)];rfl
def acT:Code->Code
 |.seq a _=>a
 |c=>c
def TG:Code->Code
 |.seq _ b=>b
 |c=>c
def AU:Code:=(match Tryz.f105.body with|some c=>c|none=>.skip)
def ZA:Code:=TG (TG AU)
def acS:E0.fn 105=some {code:=AU,ntmps:=57,results:=[.tmp 4],pure:=true,eE:=false}:=by kernel_rfl
def Zz:AU=.seq (acT AU) (.seq (acT (TG AU)) ZA):=by kernel_rfl
def cu{l:List Nat}{i:Nat}(h:i<l.length:=by omega):val (l.take (i+1))=val (l.take i)+4294967296^i*l.getD i 0:=by rw[List.take_succ,mj,List.length_take,Nat.min_eq_left (by omega),aQE,aLh h];simp[val]
def eI{l:List Nat}{i d:Nat}(h:i<l.length:=by omega):val ((l.set i d).take (i+1))=val (l.take i)+4294967296^i*d:=by rw[cu (by simpa using h),List.take_set_of_le (aKE _),aQE,List.getElem?_set_self h];rfl
def cZ{l:List Nat}{i d B:Nat}(hl:∀x∈l,x<B)(hd:d<B:=by omega):∀x∈l.set i d,x<B:=by
 intro x hx;rcases List.mem_or_eq_of_mem_set hx with h|h
 ·exact hl x h
 ·omega
def xC{H:Hp}{al:List AV}:qR false H al=bW H al:=rfl
def Gj{E:Env}(C:Ctx E){v w:AV}{a b:List Nat}(ha:eC v a)(hb:eC w b)(la:a.length<10000000001)(hle:b.length<=a.length){G:AV->Prop}(hG:∀l,eC (.aK (cA l) l.length) l->val l=val a+val b->l.length=a.length+1->G (.aK (cA l) l.length))
  {ts:List AV} (hl:ts.length=57) (g0:gt ts 0=v) (g1:gt ts 1=w):W E ZA ts [] (lU E [.tmp 4] G):=by
 have T:=gW C.toOver;unfold ZA AU;have vS:aW .i64 ((a.length:Int)+1)=((a.length+1:Nat):Int):=by rw[wrap_i64];simp
 simp only[Tryz.f105,TG,↓reduceIte,nG,ft,er,cO,sP,ec,jf,gJ,rJ,tL,eO,cT,fP,mM,dP,bZ,aS,cN,bP,aQ,dh,dO,gA,cB,fF,aV,aQq,nN,bt,aN,aY,aPI,kL,aa,ne_eq,ae,not_false_eq_true,aQo,aQk,bC,aQn,cp,hl,g0,dG T ha,vS,Y1 C (show a.length+1<100000000000 by omega),cJ];refine F0 (fun k ts H=>∃i out c,k=a.length-i/\i<=a.length/\ts.length=57/\gt ts 0=v/\gt ts 1=w/\gt ts 20=v/\gt ts 21=.int .i64 (a.length:Nat)/\gt ts 22=.int .i64 (i:Nat)/\gt ts 5=.aI 0 0 (a.length+1) 1 (a.length+1)/\gt ts 6=.int .u64 (c:Nat)/\
  H=[.cells .live (cA out)]/\out.length=a.length+1/\(∀d∈out,d<4294967296)/\c<=1/\val (out.take i)+4294967296^i*c=val (a.take i)+val (b.take i)) (a.length) ?_ ?_
 rotate_left
 ·refine⟨0,aKF (a.length+1) 0,0,by omega,by omega,by simp[hl],?_⟩;simp only[aN,aY,aPI,hl,aa,ne_eq,ae,not_false_eq_true,g0,g1];refine⟨trivial,trivial,trivial,trivial,rfl,trivial,rfl,?_,by simp,?_,by omega,by simp[val]⟩
  ·simp
  ·intro d hd;have:=(aQR.1 hd).2;omega
 clear hl g0 g1 ts;rintro k ts H ⟨i,out,c,rfl,hi,hl,g0,g1,g20,g21,g22,g5,g6,rfl,ho,hd,hc,hv⟩;have hz:=qp C;have dp:∀(j z:Nat),j<out.length->gT 1 [.int .u32 (z:Int)] [.cells .live (cA out)] 0 j=some (.cells .live (cA (out.set j z))):=by intro j z hj;rw[kj,uc hj,mY,if_pos];simp[cL];omega
 have vI:=fun z=>dp i z (by omega)
 by_cases sD:i<a.length
 ·have oT:decide ((i:Int)<(a.length:Int))=true:=bh;have ER:=ji T ha (k:=.i64) (z:=(i:Int));have zX:=JH C (b:=0) (n:=a.length+1) (k:=.i64) (z:=(i:Int));rw[aQD]at ER zX;have z7:=fun H=>oz T (l:=a) (H:=H) sD
  generalize hx:a.getD i 0=x at z7;have pZ:x<4294967296:=by rw[<-hx];rw[aQE,aLh sD];exact ha.1 _ (aLr sD)
  have w1:aW .u64 (x:Int)=x:=wrap_u64;have w2:aW .u64 ((c:Int)+(x:Int))=((c+x:Nat):Int):=by rw[<-Int.natCast_add];exact wrap_u64
  have w5:aW .i64 ((i:Int)+1)=((i+1:Nat):Int):=by rw[wrap_i64];simp
  by_cases Qd:i<b.length
  ·have Io:decide ((i:Int)<(b.length:Int))=true:=bh;have JI:=ji T hb (k:=.i64) (z:=(i:Int));rw[aQD]at JI;have LP:=fun H=>oz T (l:=b) (H:=H) Qd
   generalize hy:b.getD i 0=y at LP;have adv:y<4294967296:=by rw[<-hy,aQE,aLh Qd];exact hb.1 _ (aLr Qd)
   have w3:aW .u64 (y:Int)=y:=wrap_u64;have w4:aW .u64 (((c+x:Nat):Int)+(y:Int))=((c+x+y:Nat):Int):=by rw[<-Int.natCast_add];exact wrap_u64
   simp only[↓reduceIte,eY,jH,ft,er,eX,cO,ec,jF,fj,fC,dE,eO,cT,fT,eR,fP,tw,dP,bZ,aS,cN,de,bP,aQ,dh,dO,gA,cB,aU,nN,bt,aN,aY,aPI,kL,ga,aa,ne_eq,ae,not_false_eq_true,aLf,aQk,aLg,bC,aQt,aQn,cp,eK,aLt,gH,gG,vI,hl,g0,g1,g20,g21,g22,g5,g6,dG T hb,oT,ER,z7,eg hz.1 hz.2.1,eg hz.2.1 hz.1,gh,w1,w2,Io,JI,LP,w3,w4,w5,wrap_u32,jI,zX,jC (sd C),AV.cells];refine⟨a.length-(i+1),by omega,i+1,out.set i ((c+x+y)%4294967296),(c+x+y)/4294967296,rfl,by omega,trivial,trivial,trivial,trivial,trivial,rfl,trivial,rfl,rfl,by simpa using ho,?_,by omega,?_⟩
   ·exact cZ hd
   ·rw[eI,cu sD,cu Qd,hx,hy];have e:4294967296^(i+1)*((c+x+y)/4294967296)=4294967296^i*(4294967296*((c+x+y)/4294967296)):=by rw[aQF,aQG]
    have e2:4294967296^i*((c+x+y)%4294967296)+4294967296^i*(4294967296*((c+x+y)/4294967296))=4294967296^i*c+4294967296^i*x+4294967296^i*y:=by rw[<-aQp,Nat.mod_add_div,aQp,aQp]
    omega
  ·have Io:decide ((i:Int)<(b.length:Int))=false:=bj;simp only[↓reduceIte,eY,jH,ft,er,eX,cO,ec,jF,fj,fC,dE,eO,cT,fT,eR,fP,tw,dP,bZ,aS,cN,de,bP,aQ,dh,dO,gA,cB,aU,nN,bt,aN,aY,aPI,kL,ga,aa,ne_eq,ae,not_false_eq_true,aLf,aQk,aLg,bC,aQt,aQn,cp,eK,aLt,gH,gG,vI,hl,g0,g1,g20,g21,g22,g5,g6,dG T hb,oT,ER,z7,eg hz.1 hz.2.1,eg hz.2.1 hz.1,gh,w1,w2,Io,w5,wrap_u32,jI,zX,jC (sd C),AV.cells,aK4];refine⟨a.length-(i+1),by omega,i+1,out.set i ((c+x)%4294967296),(c+x)/4294967296,rfl,by omega,trivial,trivial,trivial,trivial,trivial,rfl,trivial,rfl,rfl,by simpa using ho,?_,by omega,?_⟩
   ·exact cZ hd
   ·have eb:∀j,b.length<=j->b.take j=b:=fun j hj=>aOv hj
    rw[eI,cu sD,eb (i+1) (by omega),hx];rw[eb i (by omega)]at hv;have e:4294967296^(i+1)*((c+x)/4294967296)=4294967296^i*(4294967296*((c+x)/4294967296)):=by rw[aQF,aQG]
    have e2:4294967296^i*((c+x)%4294967296)+4294967296^i*(4294967296*((c+x)/4294967296))=4294967296^i*c+4294967296^i*x:=by rw[<-aQp,Nat.mod_add_div,aQp]
    omega
 ·have oT:decide ((i:Int)<(a.length:Int))=false:=bj;obtain rfl:i=a.length:=by omega
  have zX:=JH C (b:=0) (n:=a.length+1) (k:=.i64) (z:=(a.length:Int));rw[aQD]at zX;have XJ:=fun z=>dp a.length z (by omega)
  have fY:∀z:Nat,qR false [.cells .live (cA (out.set a.length z))] [.aI 0 0 (a.length+1) 1 (a.length+1)]=some ([.aK (cA (out.set a.length z)) (a.length+1)],[0]):=by
   intro z
   have:=tv (H:=[.cells .live (cA (out.set a.length z))]) (b:=0) (l:=out.set a.length z) (st:=.live) rfl
   rw[aPI,ho]at this;exact this
  simp only[↓reduceIte,eY,jH,ft,er,eX,cO,ec,jF,fj,fC,dE,jx,eO,cT,fT,eR,fP,tw,dP,bZ,aS,cN,de,bP,dd,aQ,dh,dO,gA,cB,aU,nN,bt,aN,aY,aPI,kL,ga,aa,ne_eq,ae,not_false_eq_true,aLf,aQk,aLg,bC,aQt,aQn,cp,eK,aLt,gH,gG,XJ,hl,g0,g1,g20,g21,g22,g5,g6,dG T ha,oT,eg hz.1 hz.2.1,eg hz.2.1 hz.1,gh,wrap_u32,zX,jC (sd C),AV.cells,aK4,fY];have hln:(out.set a.length (c%4294967296)).length=a.length+1:=by simpa using ho
  have:=hG (out.set a.length (c%4294967296)) ⟨cZ hd,.inl rfl⟩ ?_ hln
  ·rw[hln]at this;exact this
  ·have h1:(out.set a.length (c%4294967296)).take (a.length+1)=out.set a.length (c%4294967296):=aOv (by omega);rw[<-h1,eI];rw[aOv (aKE _),aOv hle]at hv;rw[Nat.mod_eq_of_lt (by omega)];exact hv
def Th{E:Env}(C:Ctx E){v w:AV}{a b:List Nat}(ha:eC v a)(hb:eC w b)(la:a.length<10000000001)(lb:b.length<10000000001):
  ∃r,aR E 105 [v,w]=some r/\∃l,eC r l/\val l=val a+val b/\l.length=max a.length b.length+1:=by
 refine fn2 (C.ov 105 _ (by decide)) (by rw[C.fn];exact acS) rfl (by decide) ?_;intro ts hl g0 g1;have T:=gW C.toOver;show W E AU ts [] _
 rw[Zz];simp only[ft];unfold AU;by_cases h:a.length<b.length
 ·have hd:decide ((a.length:Int)<(b.length:Int))=true:=bh;simp only[Tryz.f105,acT,TG,↓reduceIte,eY,ft,eX,cO,ec,dE,eO,cT,fP,dP,bZ,aS,cN,bP,aQ,qu,dO,gA,cB,nN,bt,aN,aY,aPI,ga,aa,ne_eq,ae,not_false_eq_true,aQk,bC,aQt,hl,g0,g1,dG T ha,dG T hb,hd];refine Gj C hb ha lb (by omega) ?_ ?_ ?_ ?_
  ·intro l h1 h2 h3;exact⟨l,h1,by omega,by omega⟩
  all_goals simp[aN,aY,hl]
 ·have hd:decide ((a.length:Int)<(b.length:Int))=false:=bj;simp only[Tryz.f105,acT,TG,↓reduceIte,eY,ft,eX,cO,ec,dE,eO,cT,fP,dP,bZ,aS,cN,bP,aQ,qu,dO,gA,cB,nN,bt,aN,aY,aPI,ga,aa,ne_eq,ae,not_false_eq_true,aQk,bC,aQt,hl,g0,g1,dG T ha,dG T hb,hd,aK4];refine Gj C ha hb la (by omega) ?_ ?_ ?_ ?_
  ·intro l h1 h2 h3;exact⟨l,h1,by omega,by omega⟩
  all_goals simp[aY,hl,g0,g1]
def Oa:Code:=(match Tryz.f107.body with|some c=>c|none=>.skip)
def WQ:E0.fn 107=some {code:=Oa,ntmps:=44,results:=[.tmp 4],pure:=true,eE:=false}:=by kernel_rfl
def vo{z:Int}:aW .u32 z=z%4294967296:=by
 show IntKind.u32.wrap _=_
 rw[IntKind.wrap_u32]
def Dp{E:Env}(C:Ctx E){v w:AV}{a b:List Nat}(ha:eC v a)(hb:eC w b)(la:a.length<10000000001)(hle:b.length<=a.length)(hvl:val b<=val a:=by omega):
  ∃r,aR E 107 [v,w]=some r/\∃l,eC r l/\val l=val a-val b/\l.length=a.length:=by
 refine fn2 (C.ov 107 _ (by decide)) (by rw[C.fn];exact WQ) rfl (by decide) ?_;intro ts hl g0 g1;have T:=gW C.toOver;show W E Oa ts [] _
 unfold Oa;simp only[Tryz.f107,↓reduceIte,nG,ft,er,cO,sP,ec,jf,gJ,rJ,tL,eO,cT,mM,dP,bZ,aS,cN,bP,aQ,dh,qu,dO,gA,cB,fF,aV,aQq,nN,bt,aN,aY,aPI,aa,ne_eq,ae,not_false_eq_true,aQo,aLf,aQk,aLg,cp,hl,g0,dG T ha,Y1 C (show a.length<100000000000 by omega),cJ];refine F0 (fun k ts H=>∃i out c,k=a.length-i/\i<=a.length/\ts.length=44/\gt ts 1=w/\gt ts 13=v/\gt ts 14=.int .i64 (a.length:Nat)/\gt ts 15=.int .i64 (i:Nat)/\gt ts 5=.aI 0 0 a.length 1 a.length/\gt ts 6=.int .i64 (c:Nat)/\
  H=[.cells .live (cA out)]/\out.length=a.length/\(∀d∈out,d<4294967296)/\c<=1/\val (out.take i)+val (b.take i)=val (a.take i)+4294967296^i*c) (a.length) ?_ ?_
 rotate_left
 ·refine⟨0,aKF a.length 0,0,by omega,by omega,by simp[hl],?_⟩;simp only[aN,aY,aPI,hl,aa,ne_eq,ae,not_false_eq_true,g1];refine⟨trivial,trivial,trivial,rfl,trivial,rfl,?_,by simp,?_,by omega,by simp[val]⟩
  ·simp
  ·intro d hd;have:=(aQR.1 hd).2;omega
 clear hl g0 g1 ts;rintro k ts H ⟨i,out,c,rfl,hi,hl,g1,g13,g14,g15,g5,g6,rfl,ho,hd,hc,hv⟩;have hz:=qp C;have dp:∀(j z:Nat),j<out.length->gT 1 [.int .u32 (z:Int)] [.cells .live (cA out)] 0 j=some (.cells .live (cA (out.set j z))):=by intro j z hj;rw[kj,uc hj,mY,if_pos];simp[cL];omega
 by_cases sD:i<a.length
 ·have vI:=fun z=>dp i z (by omega)
  have oT:decide ((i:Int)<(a.length:Int))=true:=bh;have ER:=ji T ha (k:=.i64) (z:=(i:Int));have zX:=JH C (b:=0) (n:=a.length) (k:=.i64) (z:=(i:Int));rw[aQD]at ER zX;have z7:=fun H=>oz T (l:=a) (H:=H) sD
  generalize hx:a.getD i 0=x at z7;have pZ:x<4294967296:=by rw[<-hx];rw[aQE,aLh sD];exact ha.1 _ (aLr sD)
  have w1:aW .i64 (x:Int)=x:=wrap_i64;have w2:aW .i64 ((x:Int)-(c:Int))=(x:Int)-(c:Int):=wrap_i64;have w5:aW .i64 ((i:Int)+1)=((i+1:Nat):Int):=by rw[wrap_i64];simp
  by_cases Qd:i<b.length
  ·have Io:decide ((i:Int)<(b.length:Int))=true:=bh;have JI:=ji T hb (k:=.i64) (z:=(i:Int));rw[aQD]at JI;have LP:=fun H=>oz T (l:=b) (H:=H) Qd
   generalize hy:b.getD i 0=y at LP;have adv:y<4294967296:=by rw[<-hy,aQE,aLh Qd];exact hb.1 _ (aLr Qd)
   have w3:aW .i64 (y:Int)=y:=wrap_i64;have w4:aW .i64 ((x:Int)-(c:Int)-(y:Int))=(x:Int)-(c:Int)-(y:Int):=wrap_i64;by_cases oZ:(x:Int)-(c:Int)-(y:Int)<0
   ·have hn:decide ((x:Int)-(c:Int)-(y:Int)<0)=true:=bh;have w6:aW .u32 ((x:Int)-(c:Int)-(y:Int))=((x+4294967296-c-y:Nat):Int):=by rw[vo];omega
    simp(maxSteps:=1000000)only[↓reduceIte,eY,jH,ft,er,eX,cO,ec,jF,fj,fC,dE,eO,cT,fT,eR,fP,tw,dP,bZ,aS,cN,de,bP,aQ,dh,dO,gA,cB,aU,nN,bt,aN,aY,aPI,kL,lW,ga,aa,ne_eq,ae,not_false_eq_true,aLf,aQk,aLg,bC,aQt,aQn,cp,eK,aLt,gH,gG,vI,hl,g1,g13,g14,g15,g5,g6,dG T hb,oT,ER,z7,eg hz.1 hz.2.2.1,eg hz.2.2.1 hz.1,gh,w1,w2,Io,JI,LP,w3,w4,w5,w6,hn,zX,jC (sd C),AV.cells]
    refine⟨a.length-(i+1),by omega,i+1,out.set i (x+4294967296-c-y),1,rfl,by omega,trivial,trivial,trivial,trivial,rfl,trivial,rfl,rfl,by simpa using ho,?_,by omega,?_⟩
    ·exact cZ hd
    ·rw[eI,cu sD,hx,cu Qd,hy];have e:4294967296^(i+1)*1=4294967296^i*(4294967296*1):=by rw[aQF,aQG]
     have e2:4294967296^i*(x+4294967296-c-y)+4294967296^i*y+4294967296^i*c=4294967296^i*x+4294967296^i*(4294967296*1):=by rw[<-aQp,<-aQp,<-aQp];congr 1;omega
     omega
   ·have hn:decide ((x:Int)-(c:Int)-(y:Int)<0)=false:=bj;have w6:aW .u32 ((x:Int)-(c:Int)-(y:Int))=((x-c-y:Nat):Int):=by rw[vo];omega
    simp(maxSteps:=1000000)only[↓reduceIte,eY,jH,ft,er,eX,cO,ec,jF,fj,fC,dE,eO,cT,fT,eR,fP,tw,dP,bZ,aS,cN,de,bP,aQ,dh,dO,gA,cB,aU,nN,bt,aN,aY,aPI,kL,lW,ga,aa,ne_eq,ae,not_false_eq_true,aLf,aQk,aLg,bC,aQt,aQn,cp,eK,aLt,gH,gG,vI,hl,g1,g13,g14,g15,g5,g6,dG T hb,oT,ER,z7,eg hz.1 hz.2.2.1,eg hz.2.2.1 hz.1,gh,w1,w2,Io,JI,LP,w3,w4,w5,w6,hn,zX,jC (sd C),AV.cells,aK4]
    refine⟨a.length-(i+1),by omega,i+1,out.set i (x-c-y),0,rfl,by omega,trivial,trivial,trivial,trivial,rfl,trivial,rfl,rfl,by simpa using ho,?_,by omega,?_⟩
    ·exact cZ hd
    ·rw[eI,cu sD,hx,cu Qd,hy];have e:4294967296^(i+1)*0=4294967296^i*(4294967296*0):=by rw[aQF,aQG]
     have e2:4294967296^i*(x-c-y)+4294967296^i*y+4294967296^i*c=4294967296^i*x+4294967296^i*(4294967296*0):=by rw[<-aQp,<-aQp,<-aQp];congr 1;omega
     omega
  ·have Io:decide ((i:Int)<(b.length:Int))=false:=bj;by_cases oZ:(x:Int)-(c:Int)<0
   ·have hn:decide ((x:Int)-(c:Int)<0)=true:=bh;have w6:aW .u32 ((x:Int)-(c:Int))=((x+4294967296-c:Nat):Int):=by rw[vo];omega
    simp(maxSteps:=1000000)only[↓reduceIte,eY,jH,ft,er,eX,cO,ec,jF,fj,fC,dE,eO,cT,fT,eR,fP,tw,dP,bZ,aS,cN,de,bP,aQ,dh,dO,gA,cB,aU,nN,bt,aN,aY,aPI,kL,lW,ga,aa,ne_eq,ae,not_false_eq_true,aLf,aQk,aLg,bC,aQt,aQn,cp,eK,aLt,gH,gG,vI,hl,g1,g13,g14,g15,g5,g6,dG T hb,oT,ER,z7,eg hz.1 hz.2.2.1,eg hz.2.2.1 hz.1,gh,w1,w2,Io,w5,w6,hn,zX,jC (sd C),AV.cells,aK4]
    refine⟨a.length-(i+1),by omega,i+1,out.set i (x+4294967296-c),1,rfl,by omega,trivial,trivial,trivial,trivial,rfl,trivial,rfl,rfl,by simpa using ho,?_,by omega,?_⟩
    ·exact cZ hd
    ·rw[eI,cu sD,hx];rw[aOv (show b.length<=i+1 by omega)];rw[aOv (show b.length<=i by omega)]at hv;have e:4294967296^(i+1)*1=4294967296^i*(4294967296*1):=by rw[aQF,aQG]
     have e2:4294967296^i*(x+4294967296-c)+4294967296^i*0+4294967296^i*c=4294967296^i*x+4294967296^i*(4294967296*1):=by rw[<-aQp,<-aQp,<-aQp];congr 1;omega
     rw[aQQ]at e2;omega
   ·have hn:decide ((x:Int)-(c:Int)<0)=false:=bj;have w6:aW .u32 ((x:Int)-(c:Int))=((x-c:Nat):Int):=by rw[vo];omega
    simp(maxSteps:=1000000)only[↓reduceIte,eY,jH,ft,er,eX,cO,ec,jF,fj,fC,dE,eO,cT,fT,eR,fP,tw,dP,bZ,aS,cN,de,bP,aQ,dh,dO,gA,cB,aU,nN,bt,aN,aY,aPI,kL,lW,ga,aa,ne_eq,ae,not_false_eq_true,aLf,aQk,aLg,bC,aQt,aQn,cp,eK,aLt,gH,gG,vI,hl,g1,g13,g14,g15,g5,g6,dG T hb,oT,ER,z7,eg hz.1 hz.2.2.1,eg hz.2.2.1 hz.1,gh,w1,w2,Io,w5,w6,hn,zX,jC (sd C),AV.cells,aK4]
    refine⟨a.length-(i+1),by omega,i+1,out.set i (x-c),0,rfl,by omega,trivial,trivial,trivial,trivial,rfl,trivial,rfl,rfl,by simpa using ho,?_,by omega,?_⟩
    ·exact cZ hd
    ·rw[eI,cu sD,hx];rw[aOv (show b.length<=i+1 by omega)];rw[aOv (show b.length<=i by omega)]at hv;have e:4294967296^(i+1)*0=4294967296^i*(4294967296*0):=by rw[aQF,aQG]
     have e2:4294967296^i*(x-c)+4294967296^i*0+4294967296^i*c=4294967296^i*x+4294967296^i*(4294967296*0):=by rw[<-aQp,<-aQp,<-aQp];congr 1;omega
     rw[aQQ]at e2;omega
 ·have oT:decide ((i:Int)<(a.length:Int))=false:=bj;obtain rfl:i=a.length:=by omega
  have fY:qR false [.cells .live (cA out)] [.aI 0 0 a.length 1 a.length]=some ([.aK (cA out) a.length],[0]):=by
   have:=tv (H:=[.cells .live (cA out)]) (b:=0) (l:=out) (st:=.live) rfl
   rw[ho]at this;exact this
  simp only[↓reduceIte,eY,jH,ft,er,eX,cO,ec,jF,fC,dE,jx,eO,cT,fT,fP,tw,dP,bZ,aS,bP,dd,aQ,dh,dO,gA,cB,aU,bt,aN,aY,aPI,ga,aa,ne_eq,ae,not_false_eq_true,bC,aQt,aQn,gH,gG,hl,g13,g14,g15,g5,oT,aK4,fY];refine⟨out,⟨hd,.inl (by rw[ho])⟩,?_,ho⟩;rw[aOv (Nat.le_of_eq ho),aOv hle,aOv (aKE _)]at hv;have h1:=oK hd;rw[ho]at h1
  have:c=0:=by
   rcases Nat.eq_zero_or_pos c with h|h
   ·exact h
   ·have:c=1:=by omega
    subst this;omega
  subst this;omega
def ahQ:Code:=(match Tryz.f72.body with|some c=>c|none=>.skip)
def ajH:E0.fn 72=some {code:=ahQ,ntmps:=42,results:=[.cell 4 58],pure:=true,eE:=false}:=by kernel_rfl
def nX{v:AV}{z:Int}(h:eB v z):∃x y,v=.agg [x,y]/\cL x=true/\cL y=true/\aU x=true/\aU y=true:=by obtain⟨neg,m,l,rfl,hm,_⟩:=h;exact⟨_,_,rfl,rfl,(bA hm).2,rfl,aO hm⟩
def IE{E:Env}(C:Ctx E){v w:AV}{x y:Int}(h:eB v x)(k:eB w y)(fx:Fit x)(fy:Fit y):∃r,aR E 72 [v,w]=some r/\eB r (x+y):=by
 obtain⟨na,m,a,rfl,hm,hn,oZ,rfl⟩:=h;obtain⟨nb,m',b,rfl,kq,xg,Jt,rfl⟩:=k;have la:=uD hn nh fx;have lb:=uD xg nh fy;refine fn2 (C.ov 72 _ (by decide)) (by rw[C.fn];exact ajH) rfl (by decide) ?_;intro ts hl g0 g1;have T:=gW C.toOver;show W E ahQ ts [] _
 unfold ahQ;by_cases hs:na=nb
 ·subst hs;have hd:(na==na)=true:=by simp
  obtain⟨rp,hp,lp,yY,vp,lnp⟩:=Th C hm kq la lb;obtain⟨r,hr,zR⟩:=iF C yY (by omega) na;have kr:=dB hr;have lC:eB r ((if na=true then-(val a:Int)else val a)+(if na=true then-(val b:Int)else val b)):=by
   rw[vp]at zR;cases na
   ·simpa using zR
   ·simp only[if_true]at zR⊢;rw[show-(val a:Int)+ -(val b:Int)= -((val a+val b:Nat):Int)by omega];exact zR
  obtain⟨u,t,rfl,o1,o2,p1,p2⟩:=nX zR;simp only[Tryz.f72,↓reduceIte,eY,nG,ft,er,eX,cO,zt,ec,B4,fj,sI,dE,jf,jx,gJ,jM,tL,cT,mA,AE,fT,eR,fP,CS,ou,bZ,aS,de,bP,dd,k9,aQ,dh,lu,dO,gA,cB,fF,mE,aV,aU,aQq,aQx,aQz,sU,bt,aN,aY,aPI,aQl,aQm,beq_self_eq_true,aa,ah,ne_eq,ae,not_false_eq_true,fk,aQo,aQv,aLf,aQk,aLg,bC,aQt,aQn,ef,iW,kI,nM,kj,nD,cp,jL,eK,fW,aLt,aPa,aQC,aQr,aQy,aQs,aQu,aQA,aQw,aKE,decide_true,aQB,hl,g0,g1,pQ C,pR C,gC (EX C),gC (vV C),nv (B9 C),jC (DU C),oP C,aO hm,aO kq,aO yY,xP (Fj C),hp,kr,o1,o2,p1,p2];exact⟨⟨rfl,by rw[C.pairs];rfl⟩,lC⟩
 ·have hd:(na==nb)=false:=by simpa using hs
  have ord:=dB (rB C hm kq hn xg);by_cases hv:val b<=val a
  ·have Iq:decide (mI (val a) (val b)≥0)=true:=bh (by unfold mI;split<;>(try split)<;>omega);have hlen:b.length<=a.length:=by
    by_cases q:a.length<b.length
    ·have:=vh hm.1 xg q
     omega
    ·omega
   obtain⟨rp,hp,lp,yY,vp,lnp⟩:=Dp C hm kq la hlen;obtain⟨r,hr,zR⟩:=iF C yY (by omega) na;have kr:=dB hr;have lC:eB r ((if na=true then-(val a:Int)else val a)+(if nb=true then-(val b:Int)else val b)):=by
    rw[vp]at zR;have e:(if na=true then-((val a-val b:Nat):Int)else((val a-val b:Nat):Int))=((if na=true then-(val a:Int)else val a)+(if nb=true then-(val b:Int)else val b)):=by
     cases na<;>cases nb<;>first|(exact absurd rfl hs)|(simp;omega)
    rw[<-e];exact zR
   obtain⟨u,t,rfl,o1,o2,p1,p2⟩:=nX zR;simp only[Tryz.f72,↓reduceIte,eY,nG,ft,er,eX,cO,zt,ec,B4,fj,sI,dE,jf,jx,gJ,jM,tL,cT,mA,AE,fT,eR,fP,CS,ou,bZ,aS,de,bP,dd,k9,aQ,dh,lu,dO,gA,cB,fF,mE,aV,aU,aQq,aQx,aQz,sU,bt,aN,aY,aPI,aQl,aQm,beq_self_eq_true,zw,aa,ah,ne_eq,ae,not_false_eq_true,fk,aQo,aQv,aLf,aQk,aLg,bC,aQt,aQn,ef,iW,kI,nM,kj,nD,cp,jL,eK,fW,aLt,aPa,aQC,aQr,aQy,aQs,aQu,aQA,aQw,aKE,decide_true,aQB,hl,g0,g1,pQ C,pR C,gC (EX C),gC (vV C),nv (B9 C),jC (DU C),oP C,aO hm,aO kq,aO yY,xP (Fj C),hd,hp,kr,o1,o2,p1,p2,ord,Iq,aK4];exact⟨⟨rfl,by rw[C.pairs];rfl⟩,lC⟩
  ·have Iq:decide (mI (val a) (val b)≥0)=false:=bj (by unfold mI;split<;>(try split)<;>omega);have hlen:a.length<=b.length:=by
    by_cases q:b.length<a.length
    ·have:=vh kq.1 hn q
     omega
    ·omega
   obtain⟨rp,hp,lp,yY,vp,lnp⟩:=Dp C kq hm lb hlen;obtain⟨r,hr,zR⟩:=iF C yY (by omega) nb;have kr:=dB hr;have lC:eB r ((if na=true then-(val a:Int)else val a)+(if nb=true then-(val b:Int)else val b)):=by
    rw[vp]at zR;have e:(if nb=true then-((val b-val a:Nat):Int)else((val b-val a:Nat):Int))=((if na=true then-(val a:Int)else val a)+(if nb=true then-(val b:Int)else val b)):=by
     cases na<;>cases nb<;>first|(exact absurd rfl hs)|(simp;omega)
    rw[<-e];exact zR
   obtain⟨u,t,rfl,o1,o2,p1,p2⟩:=nX zR;simp only[Tryz.f72,↓reduceIte,eY,nG,ft,er,eX,cO,zt,ec,B4,fj,sI,dE,jf,jx,gJ,jM,tL,cT,mA,AE,fT,eR,fP,CS,ou,bZ,aS,de,bP,dd,k9,aQ,dh,lu,dO,gA,cB,fF,mE,aV,aU,aQq,aQx,aQz,sU,bt,aN,aY,aPI,aQl,aQm,beq_self_eq_true,zw,aa,ah,ne_eq,ae,not_false_eq_true,fk,aQo,aQv,aLf,aQk,aLg,bC,aQt,aQn,ef,iW,kI,nM,kj,nD,cp,jL,eK,fW,aLt,aPa,aQC,aQr,aQy,aQs,aQu,aQA,aQw,aKE,decide_true,aQB,hl,g0,g1,pQ C,pR C,gC (EX C),gC (vV C),nv (B9 C),jC (DU C),oP C,aO hm,aO kq,aO yY,xP (Fj C),hd,hp,kr,o1,o2,p1,p2,ord,Iq,aK4];exact⟨⟨rfl,by rw[C.pairs];rfl⟩,lC⟩
def PZ{z:Int}(h:Fit z):Fit (-z):=by obtain⟨n,h1,h2⟩:=h;exact⟨n,h1,by rwa[Int.natAbs_neg]⟩
def nP{E:Env}{ops rest:List Oper}{ts:List AV}{H:Hp}{q:List AV->Hp->Prop}{d:Option Nat}{t:Nat}{p:String}{af:Array Edge}{t1 len:Nat}{ps:Array (Nat×Operand)}:
  dZ E ops (⟨d,.buildSlice t1 len ps,t,p,af,none⟩::rest) ts H q=zq (sC ts ps.toList) fun vs=>qU (bQ E H.length t1 len vs) fun r=>dZ E ops rest (bt d r.1 ts) ((cC.bJ r.2).app H) q:=by
 rw[nJ rfl (by intro c h;cases h)];simp only[dH,bQ];cases sC ts ps.toList with
 |none=>
  cases E.ty t1 with
  |none=>rfl
  |some i=>
   obtain⟨cD,jA,jS,jB,jZ,dQ⟩:=i;cases cD<;>try rfl
   rename_i e;simp only;cases E.ty e with
   |none=>rfl
   |some ei=>simp only;cases ei.zero<;>rfl
 |some vs=>
  simp only[fM];cases E.ty t1 with
  |none=>rfl
  |some i=>
   obtain⟨cD,jA,jS,jB,jZ,dQ⟩:=i;cases cD<;>try rfl
   rename_i e;simp only;cases E.ty e with
   |none=>rfl
   |some ei=>
    simp only;cases ei.zero with
    |none=>rfl
    |some z=>
     simp only
     split
     ·cases fD (fun i=>some (i*ei.size,ei.size)) (gD z len) vs<;>rfl
     ·rfl
def aby{E:Env}(C:Ctx E){aP:Nat}{x y:Int}:bQ E aP 56 2 [(0,.int .u32 x),(1,.int .u32 y)]=some (.aI aP 0 2 1 2,[(aP,.cells .live [.int .u32 x,.int .u32 y])]):=by have T:=gW C.toOver;obtain⟨i,e1,e2,e3⟩:=T.t66;obtain⟨j,f1,f2,f3,f4,f5,f6⟩:=T.t126;obtain⟨cD,jA,jS,jB,jZ,dQ⟩:=i;simp only at e2;subst e2;simp[bQ,e1,f1,f5,f4,gD,fD,AV.cells]
def WW:Code:=(match Tryz.f81.body with|some c=>c|none=>.skip)
def acQ:E0.fn 81=some {code:=WW,ntmps:=19,results:=[.cell 2 58],pure:=true,eE:=false}:=by kernel_rfl
def om{b:Nat}{H:Hp}:(cC.marks [b]).app H=H.modify b ct.j7:=rfl
def kF{b:Nat}{x:ct}:cJ [] b x=[x]:=rfl
def Ap{z:Int}:aW .u64 z=z%18446744073709551616:=by
 show IntKind.u64.wrap z=_
 unfold IntKind.wrap;simp[IntKind.signed,IntKind.bits]
def H9{k:IntKind}{n:Int}:TQ .neg (.int k n)=some (.int k (aW k (0-n))):=rfl
def zI{E:Env}(C:Ctx E){n:Int}(h0: -9223372036854775808<=n:=by omega)(h1:n<9223372036854775808:=by omega):∃r,aR E 81 [.int .i64 n]=some r/\eB r n:=by
 obtain⟨k,hk⟩:∃k:Nat,k=n.natAbs:=⟨_,rfl⟩;have hm:eC (.aK (cA [k%4294967296,k/4294967296%4294967296]) 2) [k%4294967296,k/4294967296%4294967296]:=⟨by intro d hd;simp at hd;omega,.inl rfl⟩;have hv:val [k%4294967296,k/4294967296%4294967296]=k:=by simp only[val];omega
 obtain⟨r,hr,zR⟩:=iF C hm (by simp) (decide (n<0));have kr:=dB hr;rw[hv]at zR;have lC:eB r n:=by
  have e:(if decide (n<0)=true then-(k:Int)else(k:Int))=n:=by
   by_cases q:n<0
   ·rw[bh q];simp only[if_true];omega
   ·rw[bj q];simp only[aK4,if_false];omega
  rwa[e]at zR
 obtain⟨u,t,rfl,o1,o2,p1,p2⟩:=nX zR;refine fn1 (C.ov 81 _ (by decide)) (by rw[C.fn];exact acQ) rfl (by decide) ?_;intro ts hl g0;have T:=gW C.toOver;have hz:=qp C;show W E WW ts [] _
 unfold WW;have w2:aW .u32 (k:Int)=((k%4294967296:Nat):Int):=wrap_u32;have w3:aW .u32 ((k/4294967296:Nat):Int)=((k/4294967296%4294967296:Nat):Int):=wrap_u32;have fY:∀b:Bool,qR false [.cells .live [.bool false,.aH],.cells .live [.int .u32 ((k%4294967296:Nat):Int),.int .u32 ((k/4294967296%4294967296:Nat):Int)]] [.bool b,.aI 1 0 2 1 2]=some ([.bool b,.aK (cA [k%4294967296,k/4294967296%4294967296]) 2],[1]):=by intro b;rfl
 by_cases q:n<0
 ·have hd:decide (n<0)=true:=bh q;have w0:aW .u64 n=n+18446744073709551616:=by rw[Ap];omega
  have w1:aW .u64 (0-(n+18446744073709551616))=(k:Int):=by rw[Ap];omega
  rw[hd]at kr;cases zQ:bY (.agg [u,t])
  ·simp only[Tryz.f81,↓reduceIte,eY,nG,ft,eX,cO,ec,dE,jf,jx,gJ,jM,tL,eO,cT,mA,eR,fP,R9,ou,bZ,aS,cN,de,bP,fM,dd,k9,aQ,dh,lu,dO,gA,CC,CB,cB,kM,fF,mE,aV,aU,aQq,aQx,aQz,bt,aN,aY,aPI,beq_self_eq_true,ga,aa,ah,ne_eq,ae,not_false_eq_true,fk,aQo,aLf,aQk,aLg,bC,aQn,kI,kj,cp,jL,eK,fW,aLt,aPa,aQC,aQr,aQy,aQs,aQu,aQA,aQw,aKE,decide_true,aQB,hl,g0,nv (B9 C),jC (DU C),oP C,eg hz.2.2.2 hz.2.1,eg hz.2.1 hz.1,gh,w0,hd,H9,w1,w2,w3,nP,aby C,jI,fY,kr,zQ,o1,o2,p1,p2,aK4,om,aQL,aQM,kF];exact lC
  ·simp only[Tryz.f81,↓reduceIte,eY,nG,ft,eX,cO,ec,dE,jf,jx,gJ,jM,tL,eO,cT,mA,eR,fP,R9,ou,bZ,aS,cN,de,bP,fM,dd,k9,aQ,dh,lu,dO,gA,CC,CB,cB,kM,fF,mE,aV,aU,aQq,aQx,aQz,ur,bt,aN,aY,aPI,beq_self_eq_true,ga,aa,ah,ne_eq,ae,not_false_eq_true,fk,aQo,aLf,aQk,aLg,bC,aQn,kI,kj,cp,jL,eK,fW,aLt,aPa,aQC,aQr,aQy,aQs,aQu,aQA,aQw,aKE,decide_true,aQB,hl,g0,nv (B9 C),jC (DU C),oP C,eg hz.2.2.2 hz.2.1,eg hz.2.1 hz.1,gh,w0,hd,H9,w1,w2,w3,nP,aby C,jI,fY,kr,zQ,o1,o2,p1,p2,kF];exact lC
 ·have hd:decide (n<0)=false:=bj q;have w0:aW .u64 n=(k:Int):=by rw[Ap];omega
  rw[hd]at kr;cases zQ:bY (.agg [u,t])
  ·simp only[Tryz.f81,↓reduceIte,eY,nG,ft,eX,cO,ec,dE,jf,jx,gJ,jM,tL,eO,cT,mA,eR,fP,R9,ou,bZ,aS,cN,de,bP,fM,dd,k9,aQ,dh,lu,dO,gA,CC,CB,cB,kM,fF,mE,aV,aU,aQq,aQx,aQz,bt,aN,aY,aPI,beq_self_eq_true,ga,aa,ah,ne_eq,ae,not_false_eq_true,fk,aQo,aLf,aQk,aLg,bC,aQn,kI,kj,cp,jL,eK,fW,aLt,aPa,aQC,aQr,aQy,aQs,aQu,aQA,aQw,aKE,decide_true,aQB,hl,g0,nv (B9 C),jC (DU C),oP C,eg hz.2.2.2 hz.2.1,eg hz.2.1 hz.1,gh,w0,hd,w2,w3,nP,aby C,jI,fY,kr,zQ,o1,o2,p1,p2,aK4,om,aQL,aQM,kF];exact lC
  ·simp only[Tryz.f81,↓reduceIte,eY,nG,ft,eX,cO,ec,dE,jf,jx,gJ,jM,tL,eO,cT,mA,eR,fP,R9,ou,bZ,aS,cN,de,bP,fM,dd,k9,aQ,dh,lu,dO,gA,CC,CB,cB,kM,fF,mE,aV,aU,aQq,aQx,aQz,ur,bt,aN,aY,aPI,beq_self_eq_true,ga,aa,ah,ne_eq,ae,not_false_eq_true,fk,aQo,aLf,aQk,aLg,bC,aQn,kI,kj,cp,jL,eK,fW,aLt,aPa,aQC,aQr,aQy,aQs,aQu,aQA,aQw,aKE,decide_true,aQB,hl,g0,nv (B9 C),jC (DU C),oP C,eg hz.2.2.2 hz.2.1,eg hz.2.1 hz.1,gh,w0,hd,w2,w3,nP,aby C,jI,fY,kr,zQ,o1,o2,p1,p2,aK4,kF];exact lC
end Go.Proofs.YtmkjgfnicfpjpaaGreatDoor
