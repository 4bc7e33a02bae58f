/- A part of the proof that PairChecks returns true for every input; no condition of its own. -/
import Derived.Lib.Bytealg
import Derived.Lib.BitFns
import Derived.Lib.Strings
import Derived.Lib.TrimByte
import Derived.Lib.SlTrimSet
import Derived.Lib.ParseIntB
import Derived.Lib.ItoaNum
import Derived.Lib.Repeat
import Derived.Lib.Join
import Derived.Test.YtblnjkjjedanaaaGreatDoorRows
import Derived.KernelRfl
import Derived.Test.YtblnjkjjedanaaaGreatDoorTae
import Derived.IntWalk
set_option linter.all false
set_option maxHeartbeats 100000000
set_option maxRecDepth 100000
open List renaming length_set->aO8,length_cons->aMm,length_nil->aO9,getElem?_cons_zero->aPa,take_of_length_le->aPc,getElem?_cons_succ->aPd,nil_append->aPg,replicate->aK3,range'->aPk,take_succ_cons->aPl,drop_succ_cons->aPm,getD->aPn,drop_zero->aPp,getElem?_eq_getElem->aL5,append_nil->aPq,cons_append->aPr,take_zero->aPu,all_cons->aN1,drop_nil->aPw,take_nil->aPx,all_nil->aPy,getElem_mem->aMn,drop_eq_getElem_cons->aPB,reverse_append->aPC,mem_replicate->aPE,getElem?_set_self->aNl,modify_succ_cons->aPF,modify_zero_cons->aPG,replicate_succ->aPI,dropLast_concat_getLast->aPJ,mem_of_mem_take->aPO,reverse_reverse->aPP,getElem?_set_ne->aNh,take_set_of_le->aPR,drop_set_of_lt->aPS,length_append->aMf,flatMap_cons->aMk,drop_length->aPX
open Bool renaming false_eq_true->aKT,or_true->aPb,or_self->aPf,and_true->aPj,true_and->aPs,and_self->aPt,and_eq_true->aLR
open Option renaming map_some->aLT,bind_some->aN6,isSome_iff_exists->aL7,some->aKV
open Nat renaming zero_add->aLM,mul_add->aPe,le_refl->aKR,lt_or_ge->aN3,mul_assoc->aPv,mod_eq_of_lt->aPz,pow_succ->aPA,mod_add_div->aPH,mul_zero->aPL,min_eq_left->aPM,mul_le_mul_right->aLL,mul_le_mul_left->aPQ,mul_comm->aPT,or_lt_two_pow->aPU,mul_one->aPV,reduceLT->aa,reduceEqDiff->ae,reduceAdd->ah
open Int renaming toNat_natCast->aPh,natCast_add->aPD,fdiv_eq_ediv_of_nonneg->aPK,natCast_mul->aPN
namespace Dv
open Go
def I6:List AV->Option (List (List UInt8))
 |[]=>some []
 |.str s::l=>(I6 l).map (s::·)
 |_=>none
structure Wa where
 L8:Nat
 aph:Nat
 trim:Nat
 trimPrefix:Nat
 H9:Nat
 I0:Nat
 itoa:Nat
 rep:Nat
 join:Nat
 contains:Nat
 pred:Nat
def SJ:List AV->Option AV
 |[.str s,.int .u8 c]=>some (.int .i64 (Lib.indexByte s c.toNat.toUInt8))
 |_=>none
def Wq:List AV->Option AV
 |[.int .u32 x]=>if 0<=x/\x<=4294967295 then some (.int .i64 (32-(Lib.bitLen x.toNat:Int)))else none
 |_=>none
def Fx:List AV->Option AV
 |[.str s,.str c]=>if c.all (fun b=>decide (b.toNat<128))=true/\c.length<4294967281/\s.length<=9223372036854775807 then some (.str (Lib.trimS s c))else none
 |_=>none
def qF:List AV->Option AV
 |[.str s,.str p]=>some (.str (Lib.trimPrefix s p))
 |_=>none
def sD:List AV->Option AV
 |[.str s,.str p]=>some (.tuple [.str (Lib.trimPrefix s p),.bool (Lib.hasPrefix s p)])
 |_=>none
def ph:List AV->Option AV
 |[.str s,.int .i64 b,.int .i64 z]=>if b=10/\z=32/\s.length<=9223372036854775806 then(match Lib.parseUintB 32 s with
  |.ok u=>some (.tuple [.int .u64 u,.nilIface])
  |_=>none)else none
 |_=>none
def ER:List AV->Option AV
 |[.int .i64 n]=>if 0<=n/\n<=9223372036854775807 then some (.str (Lib.itoa n))else none
 |_=>none
def M0:List AV->Option AV
 |[.str s,.int .i64 n]=>if 0<=n/\n<=9223372036854775807/\s.length*n.toNat<=140737488355328 then some (.str (Lib.repeatL s n.toNat))else none
 |_=>none
def Cb:List AV->Option AV
 |[.aK cs n,.str sep]=>if cs.length=n/\2<=n/\n<=140737488355328 then(match I6 cs with
  |some xs=>if 0<(Lib.join xs sep).length/\(Lib.join xs sep).length<=281474976710656 then some (.str (Lib.join xs sep))else none
  |none=>none)else none
 |_=>none
def rE(pred:Nat):List AV->Option AV
 |[.str s,.func f [] []]=>if f=pred/\s.all (fun b=>decide (48<=b.toNat/\b.toNat<=57))=true/\s.length<=281474976710656 then some (.bool false)else none
 |_=>none
def jC(N:Wa)(f:Nat)(l:List AV):Option AV:=
 if f=N.L8 then SJ l else
 if f=N.aph then Wq l else
 if f=N.trim then Fx l else
 if f=N.trimPrefix then qF l else
 if f=N.H9 then sD l else
 if f=N.I0 then ph l else
 if f=N.itoa then ER l else
 if f=N.rep then M0 l else
 if f=N.join then Cb l else
 if f=N.contains then rE N.pred l else none
end Dv
namespace Go.Proofs.YtblnjkjjedanaaaGreatDoor
open Go Dv
def Ra:Nat->Nat->List (Nat×Nat)
 |1,10=>[(0,7),(2,7),(3,7)]
 |1,11=>[(0,8),(2,8),(3,8),(4,8)]
 |1,12=>[(4,8),(4,9)]
 |1,13=>[(0,10),(2,10),(4,10),(5,10),(6,10)]
 |3,6=>[(1,3)]
 |3,28=>[(19,20),(20,22)]
 |4,11=>[(3,9),(4,9),(5,9),(6,9),(7,9),(7,8)]
 |5,6=>[(0,4),(1,4),(2,4),(3,4)]
 |5,15=>[(10,12)]
 |6,8=>[(1,4)]
 |6,13=>[(0,8),(1,8),(2,8),(3,8),(0,9),(1,9),(2,9),(3,9),(8,9)]
 |7,5=>[(1,2)]
 |7,13=>[(0,10),(2,10),(4,10),(5,10),(6,10)]
 |7,15=>[(0,10),(1,10),(2,10),(3,10),(4,10),(5,10),(0,11),(1,11),(2,11),(3,11),(4,11),(5,11),(10,11)]
 |8,11=>[(0,9),(2,9),(4,9),(5,9),(6,9),(7,9)]
 |9,9=>[(0,6),(1,6),(2,6)]
 |10,9=>[(0,6),(1,6),(2,6)]
 |18,9=>[(0,6),(1,6),(2,6)]
 |21,6=>[(0,4),(2,4),(3,4)]
 |21,14=>[(7,10)]
 |27,11=>[(4,6)]
 |28,8=>[(1,4)]
 |29,10=>[(3,7),(4,7)]
 |_,_=>[]
def amV:List Nat:=[93,98,99,101,132,133,134,141,172,174,178,179,198,201,211]
def afh:List Nat:=[172,198,211]
def af1:List Nat:=[128]
def ON:DataW Unit->List AV
 |.lit (.int k n)=>[.int k n]
 |.agg ds=>go ds
 |_=>[]
where
 go:List (DataW Unit)->List AV
 |[]=>[]
 |.lit (.int k n)::ds=>.int k n::go ds
 |_::ds=>aZ::go ds
def afb:List AV:=ON Rows.laid_math_bits_deBruijn64tab
def aeW:List AV:=ON Rows.laid_math_bits_deBruijn32tab
def BY:List AV:=ON Rows.laid_internal_strconv_uint64pow10
def Zn:Nat->Option (List AV)
 |7=>some afb
 |6=>some aeW
 |1=>some BY
 |_=>none
def Bz:Wa:={L8:=238,aph:=177,trim:=118,trimPrefix:=117,H9:=156,I0:=159,itoa:=91,rep:=92,join:=94,contains:=157,pred:=158}
def Gt:List Nat:=[238,177,118,117,156,159,91,92,94,157]
noncomputable def E0:Env:={ty:=ZU Tryz.prog,fn:=Qm Tryz.prog amV afh af1,glob:=Zn,ov:=jC Bz,sj:=fun _ _ _=>none,pairs:=Ra}
theorem IM:(Tryz.prog.funcs.all (fun fn=>fn.name != "runtime.NumGoroutine"))=true:=by kernel_rfl
theorem Jl:Tryz.prog.follows .mixedOrders=true:=by kernel_rfl
theorem LQ:Tryz.prog.funcs.size=278:=by kernel_rfl
theorem aiP:(aPk 0 15).all (sU E0)=true:=by kernel_rfl
theorem ahS:(aPk 15 15).all (sU E0)=true:=by kernel_rfl
theorem ag3:(aPk 30 15).all (sU E0)=true:=by kernel_rfl
theorem ai7:(aPk 45 15).all (sU E0)=true:=by kernel_rfl
theorem aiL:(aPk 60 15).all (sU E0)=true:=by kernel_rfl
theorem aik:(aPk 75 15).all (sU E0)=true:=by kernel_rfl
theorem ahb:(aPk 90 15).all (sU E0)=true:=by kernel_rfl
theorem aii:(aPk 105 15).all (sU E0)=true:=by kernel_rfl
theorem agm:(aPk 120 15).all (sU E0)=true:=by kernel_rfl
theorem ahP:(aPk 135 15).all (sU E0)=true:=by kernel_rfl
theorem aey:(aPk 150 15).all (sU E0)=true:=by kernel_rfl
theorem aek:(aPk 165 15).all (sU E0)=true:=by kernel_rfl
theorem ads:(aPk 180 15).all (sU E0)=true:=by kernel_rfl
theorem acs:(aPk 195 15).all (sU E0)=true:=by kernel_rfl
theorem adb:(aPk 210 15).all (sU E0)=true:=by kernel_rfl
theorem ab0:(aPk 225 15).all (sU E0)=true:=by kernel_rfl
theorem aaR:(aPk 240 15).all (sU E0)=true:=by kernel_rfl
theorem adk:(aPk 255 15).all (sU E0)=true:=by kernel_rfl
theorem abh:(aPk 270 8).all (sU E0)=true:=by kernel_rfl
theorem XJ:Valid E0 Tryz.prog:=by
 refine Dl (E:=E0) (P:=Tryz.prog) (imp:=amV) (fL:=afh) (skip:=af1) (by simp only[E0]) (by simp only[E0]) IM Jl fun f hf=>?_
 rw[LQ]at hf;rcases aN3 f 15 with h|h
 ·exact gk aiP (by omega) (by omega)
 rcases aN3 f 30 with h|h
 ·exact gk ahS (by omega) (by omega)
 rcases aN3 f 45 with h|h
 ·exact gk ag3 (by omega) (by omega)
 rcases aN3 f 60 with h|h
 ·exact gk ai7 (by omega) (by omega)
 rcases aN3 f 75 with h|h
 ·exact gk aiL (by omega) (by omega)
 rcases aN3 f 90 with h|h
 ·exact gk aik (by omega) (by omega)
 rcases aN3 f 105 with h|h
 ·exact gk ahb (by omega) (by omega)
 rcases aN3 f 120 with h|h
 ·exact gk aii (by omega) (by omega)
 rcases aN3 f 135 with h|h
 ·exact gk agm (by omega) (by omega)
 rcases aN3 f 150 with h|h
 ·exact gk ahP (by omega) (by omega)
 rcases aN3 f 165 with h|h
 ·exact gk aey (by omega) (by omega)
 rcases aN3 f 180 with h|h
 ·exact gk aek (by omega) (by omega)
 rcases aN3 f 195 with h|h
 ·exact gk ads (by omega) (by omega)
 rcases aN3 f 210 with h|h
 ·exact gk acs (by omega) (by omega)
 rcases aN3 f 225 with h|h
 ·exact gk adb (by omega) (by omega)
 rcases aN3 f 240 with h|h
 ·exact gk ab0 (by omega) (by omega)
 rcases aN3 f 255 with h|h
 ·exact gk aaR (by omega) (by omega)
 rcases aN3 f 270 with h|h
 ·exact gk adk (by omega) (by omega)
 rcases aN3 f 278 with h|h
 ·exact gk abh (by omega) (by omega)
 omega
structure Over(E:Env):Prop where
 fn:E.fn=E0.fn
 ty:E.ty=E0.ty
 sj:E.sj=fun _ _ _=>none
 pairs:E.pairs=E0.pairs
 glob:E.glob=E0.glob
class Ctx(E:Env):Prop extends Over E where
 ov:∀f l,f∉Gt->E.ov f l=none
 Uw:∀f l,f∈Gt->E.ov f l=jC Bz f l
section
variable{E:Env}
theorem SI{f:Nat}{fi:FnI}{args:List AV}{r:AV}(mP:E.ov f args=none)(jE:E.fn f=some fi)(hp:fi.pure=true)
  (h:Cv E fi.code (args++aK3 (fi.ntmps-args.length) aZ) [] fun ex ts H=>(∀id,ex≠ .exit id)/\∃rs bs,iW H E ts fi.results=some rs/\bW H [kU rs]=some ([r],bs)):∃n,call E n f args=some r:=by
 obtain⟨n,ex,ts,H,h1,h2,rs,bs,h3,h4⟩:=h;refine⟨n,?_⟩;unfold call pK;simp only[mP,jE,hp,Bool.true_or,Bool.not_true,aKT,if_false,h1];cases ex with
 |exit id=>exact absurd rfl (h2 id)
 |normal=>simp only[h3,h4]
 |ret=>simp only[h3,h4]
end
def cM(l:List Nat):List AV:=l.map fun(n:Nat)=>.int .u32 (n:Int)
def fN(v:AV)(l:List Nat):Prop:=(∀d∈l,d<4294967296)/\(v=.aK (cM l) l.length∨(l=[]/\(v=.aH∨v=.eW)))
section
variable{E:Env}
structure IZ(E:Env):Prop where
 t66:∃i,E.ty 58=some i/\i.cV=.slice 156/\i.isAgg=false
 t126:∃i,E.ty 156=some i/\i.cV=.int .u32/\i.isAgg=false/\i.size=1/\i.zero=some [.int .u32 0]/\i.bytes=4
theorem eF(T:IZ E){v:AV}{l:List Nat}(h:fN v l){H:Hp}{aL:Nat}:aV E H aL .len [58] [v]=some (.int .i64 (l.length:Nat),[]):=by
 obtain⟨i,h1,h2,_⟩:=T.t66;obtain⟨cV,isAgg,size,bytes,zero,eS⟩:=i;simp only at h2;subst h2;rcases h.2 with rfl|⟨rfl,rfl|rfl⟩<;>simp[aV,rS,h1]
theorem k8(T:IZ E){v:AV}{l:List Nat}(h:fN v l){k:IntKind}{z:Int}(h0:0<=z)(h1:z<(l.length:Int)):cF E 58 v (.int k z)=some (.eX (cM l) z.toNat):=by
 obtain⟨i,e1,e2,_⟩:=T.t66;obtain⟨j,f1,f2,f3,f4,_⟩:=T.t126;rcases h.2 with rfl|⟨rfl,_⟩
 ·simp only[cF,e1,e2,f1,f4];rw[if_pos ⟨h0,h1⟩,aPV]
 ·simp at h1;omega
theorem rX(T:IZ E){l:List Nat}{H:Hp}{n:Nat}(h:n<l.length):gT E H 156 (.eX (cM l) n)=some (.int .u32 (l.getD n 0:Nat)):=by obtain⟨j,f1,f2,f3,f4,_⟩:=T.t126;simp[gT,HP,jq,f1,f3,cM,aPn,h]
theorem aj4(T:IZ E){v:AV}{l:List Nat}(h:fN v l){k:IntKind}{z:Int}(h0:0<=z)(h1:z<=(l.length:Int)):∃r,iS E 58 v none (some (.int k z))=some r/\fN r (l.take z.toNat):=by
 obtain⟨i,e1,e2,_⟩:=T.t66;obtain⟨j,f1,f2,f3,f4,_⟩:=T.t126;have hd:∀d∈l.take z.toNat,d<4294967296:=fun d hd=>h.1 d (aPO hd)
 rcases h.2 with rfl|⟨rfl,hv⟩
 ·have hb:gW l.length l.length none (some (.int k z))=some (0,z.toNat):=by simp only[gW,hiE,asNat,loE];rw[if_pos ⟨h0,h1⟩]
  by_cases hz:z.toNat=0
  ·refine⟨.eW,?_,hd,.inr ⟨by rw[hz];rfl,.inr rfl⟩⟩;simp only[iS,e1,e2,f1,hb];rw[if_pos hz.symm]
  ·refine⟨.aK (cM (l.take z.toNat)) (l.take z.toNat).length,?_,hd,.inl rfl⟩;simp only[iS,e1,e2,f1,hb,f4];rw[if_neg (fun e=>hz e.symm)]
   have:min z.toNat l.length=z.toNat:=by omega
   simp[cM,List.map_take,this]
 ·have hz:z=0:=by simp at h1;omega
  subst hz;refine⟨v,?_,by simp,.inr ⟨rfl,hv⟩⟩;rcases hv with rfl|rfl<;>simp[iS,e1,e2,f1,gW,hiE,asNat,loE]
end
theorem wrap_i64{n:Int}(h0: -9223372036854775808<=n)(h1:n<=9223372036854775807):aX .i64 n=n:=IntWalk.i64_in _ ⟨h0,h1⟩
noncomputable def Zr:Code:=(match Tryz.f120.body with|some c=>c|none=>.skip)
theorem R9:E0.fn 120=some {code:=Zr,ntmps:=21,results:=[.tmp 2],pure:=true,fL:=false}:=by kernel_rfl
theorem acA{E:Env}{ops rest:List Oper}{ts:List AV}{H:Hp}{q:List AV->Hp->Prop}{d t i0 i2 t1:Nat}{p:String}{af:Array Edge}{ti:Bn}(ht:E.ty t1=some ti){e:Nat}(hu:ti.cV=.slice e)(ha:ti.isAgg=false):
  fA E ops (⟨some d,.slice t1 (.tmp i0) none (some (.tmp i2)) none,t,p,af,none⟩::rest) ts H q=ck (iS E t1 (gt ts i0) none (some (gt ts i2))) fun r=>fA E ops rest (ts.set d r) H q:=by
 rw[T0 ht (by rw[hu,ha]) ha];rfl
def kq(l:List Nat):List Nat:=(l.reverse.dropWhile (·==0)).reverse
theorem acG{E:Env}(T:IZ E){v:AV}{l:List Nat}(h:fN v l)(hlen:l.length<1000000000000){ts:List AV}{H:Hp}(hl:ts.length=21)(g0:gt ts 0=v){Q:Ex->List AV->Hp->Prop}
  (hQ:∀dx r,gt dx 2=r->fN r (kq l)->Q .ret dx H):Cv E Zr ts H Q:=by
 obtain⟨i66,e1,e2,e3⟩:=T.t66;refine Cv.seq (Cv.run ?_);simp only[Q4,cD];refine Cv.seq (Cv.block ?_);refine Cv.loop (fun k ts H'=>∃v l',k=l'.length/\fN v l'/\l'.length<=l.length/\kq l'=kq l/\ts.length=21/\gt ts 0=v/\H'=H) ?_ l.length _ _ ⟨v,l,rfl,h,aKR _,rfl,by simp[hl],by simp[dF,g0],rfl⟩;clear hl g0 h v ts;rintro k ts H' ⟨v,l',rfl,h,hle,htr,hl,g0,rfl⟩;refine Cv.seq (Cv.seq (Cv.run ?_));have fin:l'=[]∨(∃d l0,l'=l0++[d]/\d≠0)->kq l'=l':=by
  rintro(rfl|⟨d,l0,rfl,hd⟩)
  ·rfl
  ·unfold kq;rw[aPC];simp[hd]
 by_cases h0:0<l'.length
 ·have hd:decide ((l'.length:Int)>0)=true:=b8 (by omega);have hw:aX .i64 ((l'.length:Int)-1)=((l'.length:Int)-1):=wrap_i64 (by omega) (by omega);have Dz:=k8 T h (k:=.i64) (z:=(l'.length:Int)-1) (by omega) (by omega);have htn:((l'.length:Int)-1).toNat=l'.length-1:=by omega
  rw[htn]at Dz;simp only[jf,pE,Ep,abr,DH,xN,tH,cD,aR,dm,jO,bJ,dF,aO8,FI,uH,sI,wo,aPa,aPd,aN6,Ii,beq_self_eq_true,oF,Ck,Ru,aa,ne_eq,ae,not_false_eq_true,bK,hl,g0,eF T h,hd,hw,Dz,rX T (show l'.length-1<l'.length by omega)];refine Cv.cond (t:=((l'.getD (l'.length-1) 0:Nat):Int)==0) (by rw[cW];simp only[bJ,aO8,hl,aa]) ?_;obtain⟨l0,d,rfl⟩:∃l0 d,l'=l0++[d]:=⟨l'.dropLast,l'.getLast (by intro e;simp[e]at h0),by rw[aPJ]⟩;have hg:(l0++[d]).getD ((l0++[d]).length-1) 0=d:=by simp[aPn]
  rw[hg];by_cases hz:d=0
  ·subst hz;have nM:(((0:Nat):Int)==0)=true:=rfl;rw[nM];simp only[if_true];refine Cv.skip ?_;refine Cv.block (Cv.run ?_);obtain⟨r,Cg,G5⟩:=aj4 T h (k:=.i64) (z:=((l0++[0]).length:Int)-1) (by omega) (by omega);rw[htn]at G5;simp only[jf,oL,pE,DH,cD,aR,dm,bJ,dF,aO8,uH,oF,aa,ne_eq,ae,not_false_eq_true,hl,g0,eF T h,hw,acA e1 e2 e3,Cg];refine⟨l0.length,by simp,r,l0,rfl,by simpa using G5,by simp at hle;omega,?_,by simp[],by simp[],by first|rfl|trivial⟩;rw[<-htr];unfold kq;rw[aPC]
   simp
  ·have dY:(((d:Nat):Int)==0)=false:=by simp[hz]
   rw[dY];simp only[aKT,if_false];refine Cv.exit ?_;simp only[if_true];refine Cv.seq (Cv.run ?_);simp only[jf,oL,cD,bJ,dF,aO8,aa,ne_eq,ae,not_false_eq_true,hl,g0];refine Cv.ret (hQ _ v (by simp[bJ,hl]) ?_);rw[<-htr,fin (.inr ⟨d,l0,rfl,hz⟩)];exact h
 ·have hd:decide ((l'.length:Int)>0)=false:=cg (by omega);have KQ:l'=[]:=by cases l' with
   |nil=>rfl
   |cons a t=>simp at h0
  simp only[jf,pE,Ep,abr,DH,xN,tH,cD,aR,dm,iK,bJ,dF,aO8,Ds,uH,sI,wo,aPa,aPd,aN6,Ii,oF,Ck,aa,ne_eq,ae,not_false_eq_true,bK,hl,g0,eF T h,hd,show(some false==some true)=false from rfl,bK];refine Cv.cond (t:=false) (by rw[cW];simp only[bJ,aO8,hl,aa]) ?_;simp only[aKT,if_false];refine Cv.exit ?_;simp only[if_true];refine Cv.seq (Cv.run ?_);simp only[jf,oL,cD,bJ,dF,aO8,aa,ne_eq,ae,not_false_eq_true,hl,g0];refine Cv.ret (hQ _ v (by simp[bJ,hl]) ?_);rw[<-htr,fin (.inl KQ)];exact h
def val:List Nat->Nat
 |[]=>0
 |d::l=>d+4294967296*val l
def Norm(l:List Nat):Prop:=∀d l0,l=l0++[d]->d≠0
theorem oM(a b:List Nat):val (a++b)=val a+4294967296^a.length*val b:=by
 induction a with
 |nil=>simp[val]
 |cons d a ih=>simp only[aPr,val,ih,aMm,aPA];rw[aPe,Nat.add_assoc,aPT (4294967296^a.length) 4294967296,aPv]
theorem sB(l:List Nat):∃n,l=kq l++aK3 n 0:=by
 unfold kq;have h:∀r:List Nat,∃n,r=aK3 n 0++r.dropWhile (·==0):=by
  intro r;induction r with
  |nil=>exact⟨0,rfl⟩
  |cons d r ih=>
   by_cases hd:d=0
   ·obtain⟨n,hn⟩:=ih;refine⟨n+1,?_⟩;subst hd;simp only[List.dropWhile_cons,beq_self_eq_true,if_true,aPI,aPr];rw[<-hn]
   ·refine⟨0,?_⟩
    have:(d==0)=false:=by simpa using hd
    simp[this]
 obtain⟨n,hn⟩:=h l.reverse;refine⟨n,?_⟩
 have:=congrArg List.reverse hn
 rw[aPP,aPC,List.reverse_replicate]at this;exact this
theorem kG(l:List Nat):Norm (kq l):=by
 intro d l0 h;unfold kq at h;have h2:=congrArg List.reverse h;rw[aPP,aPC]at h2;simp only[List.reverse_cons,List.reverse_nil,aPg,List.singleton_append]at h2;intro hd
 have:=List.head?_dropWhile_not (fun x:Nat=>x==0) l.reverse
 rw[h2]at this;simp[hd]at this
theorem Im(n:Nat):val (aK3 n 0)=0:=by
 induction n with
 |zero=>rfl
 |succ n ih=>simp[aPI,val,ih]
theorem jN(l:List Nat):val (kq l)=val l:=by
 obtain⟨n,hn⟩:=sB l
 have:=congrArg val hn
 rw[oM,Im]at this;simpa using this.symm
def fm(v:AV)(z:Int):Prop:=∃(neg:Bool) (m:AV) (l:List Nat),v=.agg [.bool neg,m]/\fN m l/\Norm l/\(neg=true->l≠[])/\z=(if neg then-(val l:Int)else val l)
theorem oQ{l:List Nat}(h:∀d∈l,d<4294967296):val l<4294967296^l.length:=by
 induction l with
 |nil=>simp[val]
 |cons d l ih=>
  have h1:=ih fun x hx=>h x (by simp[hx])
  have h2:=h d (by simp);simp only[val,aMm,aPA]
  have:4294967296*(val l+1)<=4294967296^l.length*4294967296:=by rw[aPT];exact aLL _ h1
  omega
theorem BG{l:List Nat}(hn:Norm l)(dY:l≠[]):4294967296^(l.length-1)<=val l:=by
 obtain⟨l0,d,rfl⟩:∃l0 d,l=l0++[d]:=⟨l.dropLast,l.getLast dY,by rw[aPJ]⟩;have hd:=hn d l0 rfl;rw[oM];simp only[val,aMf,aMm,aO9,aPL,Nat.add_zero,aLM,Nat.add_sub_cancel]
 have:4294967296^l0.length*1<=4294967296^l0.length*d:=aPQ _ (by omega)
 omega
theorem ub{l:List Nat}{i:Nat}(h:i<l.length):val l=val (l.take i)+4294967296^i*(l.getD i 0+4294967296*val (l.drop (i+1))):=by
 have e:l=l.take i++l.drop i:=(List.take_append_drop i l).symm;have h1:(l.take i).length=i:=by simp;omega
 conv=>lhs;rw[e]
 rw[oM,h1,aPB h];simp[val,aPn,h]
theorem SS{a b:List Nat}(ha:∀d∈a,d<4294967296)(hl:a.length=b.length){i:Nat}(hi:i<a.length)(hd:a.drop (i+1)=b.drop (i+1))(iH:a.getD i 0<b.getD i 0):val a<val b:=by
 rw[ub hi,ub (show i<b.length by omega),hd];have h1:val (a.take i)<4294967296^i:=by
  have:=oQ (l:=a.take i) fun d hd=>ha d (aPO hd)
  rwa[show(a.take i).length=i by simp;omega]at this
 have h2:4294967296^i*(a.getD i 0+4294967296*val (b.drop (i+1))+1)<=4294967296^i*(b.getD i 0+4294967296*val (b.drop (i+1))):=aPQ _ (by omega);rw[aPe,aPV]at h2;omega
theorem yg{a b:List Nat}(ha:∀d∈a,d<4294967296)(hb:Norm b)(h:a.length<b.length):val a<val b:=by have h1:=oQ ha;have h2:=BG hb (by intro e;subst e;simp at h);have h3:4294967296^a.length<=4294967296^(b.length-1):=Nat.pow_le_pow_right (by omega) (by omega);omega
def pO(x y:Int):Int:=if x<y then-1 else if y<x then 1 else 0
theorem jb{E:Env}(h:Over E):IZ E:=by
 have h66:∃i,E0.ty 58=some i/\i.cV=.slice 156/\i.isAgg=false:=by
  obtain⟨i,hi⟩:∃i,E0.ty 58=some i:=aL7.1 (by kernel_rfl);have a1:(E0.ty 58).map (·.cV)=some (.slice 156):=by kernel_rfl
  have a2:(E0.ty 58).map (·.isAgg)=some false:=by kernel_rfl
  rw[hi]at a1 a2;exact⟨i,hi,by simpa using a1,by simpa using a2⟩
 have h126:∃i,E0.ty 156=some i/\i.cV=.int .u32/\i.isAgg=false/\i.size=1/\i.zero=some [.int .u32 0]/\i.bytes=4:=by
  obtain⟨i,hi⟩:∃i,E0.ty 156=some i:=aL7.1 (by kernel_rfl);have a1:(E0.ty 156).map (·.cV)=some (.int .u32):=by kernel_rfl
  have a2:(E0.ty 156).map (·.isAgg)=some false:=by kernel_rfl
  have a3:(E0.ty 156).map (·.size)=some 1:=by kernel_rfl
  have a4:(E0.ty 156).map (·.zero)=some (some [.int .u32 0]):=by kernel_rfl
  have a5:(E0.ty 156).map (·.bytes)=some 4:=by kernel_rfl
  rw[hi]at a1 a2 a3 a4 a5;exact⟨i,hi,by simpa using a1,by simpa using a2,by simpa using a3,by simpa using a4,by simpa using a5⟩
 exact⟨by rw[h.ty];exact h66,by rw[h.ty];exact h126⟩
noncomputable def XU:Code:=(match Tryz.f121.body with|some c=>c|none=>.skip)
theorem Mx:E0.fn 121=some {code:=XU,ntmps:=41,results:=[.tmp 4],pure:=true,fL:=false}:=by kernel_rfl
theorem ZE{E:Env}(C:Ctx E){va vb:AV}{a b:List Nat}(ha:fN va a)(hb:fN vb b)(na:Norm a)(nb:Norm b)(la:a.length<1000000000000)(lb:b.length<1000000000000){ts:List AV}{H:Hp}(hl:ts.length=41)(g0:gt ts 0=va)(g1:gt ts 1=vb){Q:Ex->List AV->Hp->Prop}
  (hQ:∀dx,gt dx 4=.int .i64 (pO (val a) (val b))->Q .ret dx H):Cv E XU ts H Q:=by
 have T:=jb C.toOver;refine Cv.seq (Cv.run ?_);simp only[oI,cD];refine Cv.seq (Cv.seq (Cv.run ?_));simp only[jf,AD,DH,cD,aR,dm,bJ,dF,aO8,uH,aa,ne_eq,ae,not_false_eq_true,Qj,hl,g0,g1,eF T ha,eF T hb];refine Cv.cond (t:=((a.length:Int)!=(b.length:Int))) (by rw[cW];simp only[bJ,aO8,hl,aa]) ?_;by_cases hlen:a.length=b.length
 ·have h1:((a.length:Int)!=(b.length:Int))=false:=by simp[hlen]
  rw[h1];simp only[aKT,if_false];refine Cv.skip ?_;refine Cv.seq (Cv.seq (Cv.run ?_));have hw:aX .i64 ((a.length:Int)-1)=((a.length:Int)-1):=wrap_i64 (by omega) (by omega);simp only[jf,oL,pE,DH,cD,aR,dm,bJ,dF,aO8,uH,oF,aa,ne_eq,ae,not_false_eq_true,hl,g0,eF T ha,hw];refine Cv.block (Cv.loop (fun k ts H'=>k<=a.length/\ts.length=41/\gt ts 0=va/\gt ts 1=vb/\gt ts 5=.int .i64 ((k:Int)-1)/\a.drop k=b.drop k/\H'=H) ?_ a.length _ _ ?_)
  rotate_left
  ·exact⟨aKR _,by simp[hl],by simp[dF,g0],by simp[dF,g1],by simp[bJ,hl],by rw[aPX,hlen,aPX],rfl⟩
  clear hl g0 g1 ts;rintro k ts H' ⟨hk,hl,g0,g1,g5,hdr,rfl⟩;refine Cv.seq (Cv.seq (Cv.run ?_));simp only[jf,pE,cD,aR,bJ,aa,CH,hl,g5];refine Cv.cond (t:=decide ((k:Int)-1≥0)) (by rw[cW];simp only[bJ,aO8,hl,aa]) ?_;by_cases Zh:k=0
  ·have h2:decide ((k:Int)-1≥0)=false:=cg (by omega);rw[h2];simp only[aKT,if_false];refine Cv.exit ?_;simp only[if_true];refine Cv.seq (Cv.run ?_);simp only[oI,cD];refine Cv.ret (hQ _ ?_);rw[bJ (by simp[hl])];subst Zh;simp only[aPp]at hdr;subst hdr;unfold pO;rw[if_neg (by omega),if_neg (by omega)]
  ·have h2:decide ((k:Int)-1≥0)=true:=b8 (by omega);rw[h2];simp only[if_true];refine Cv.skip ?_;have uv:=k8 T ha (k:=.i64) (z:=(k:Int)-1) (by omega) (by omega);have SC:=k8 T hb (k:=.i64) (z:=(k:Int)-1) (by omega) (by omega);have htn:((k:Int)-1).toNat=k-1:=by omega
   rw[htn]at uv SC;have CG:=fun H'=>rX T (l:=a) (H:=H') (n:=k-1) (by omega)
   have OE:=fun H'=>rX T (l:=b) (H:=H') (n:=k-1) (by omega)
   refine Cv.seq (Cv.block (Cv.seq (Cv.aiG rfl (by rw[C.pairs];rfl) ?_)));simp only[jf,AD,Ep,abr,cD,aR,bJ,dF,aO8,aa,ne_eq,ae,not_false_eq_true,Qj,hl,g0,g1,g5,uv,SC,CG,OE];refine Cv.cond (t:=(((a.getD (k-1) 0:Nat):Int)!=((b.getD (k-1) 0:Nat):Int))) (by rw[cW];simp only[bJ,aO8,hl,aa]) ?_;have hka:k-1<a.length:=by omega
   have sk:a.drop (k-1)=a.getD (k-1) 0::a.drop k:=by rw[aPB hka,show k-1+1=k by omega];simp[aPn,hka]
   have hkb:k-1<b.length:=by omega
   have DK:b.drop (k-1)=b.getD (k-1) 0::b.drop k:=by rw[aPB hkb,show k-1+1=k by omega];simp[aPn,hkb]
   by_cases hd:a.getD (k-1) 0=b.getD (k-1) 0
   ·have h3:(((a.getD (k-1) 0:Nat):Int)!=((b.getD (k-1) 0:Nat):Int))=false:=by rw[hd];simp
    rw[h3];simp only[aKT,if_false];refine Cv.skip ?_;refine Cv.run ?_;have Cf:aX .i64 ((k:Int)-1-1)=((k:Int)-1-1):=wrap_i64 (by omega) (by omega);simp only[jf,oL,pE,cD,aR,bJ,dF,aO8,oF,aa,ne_eq,ae,not_false_eq_true,hl,g5,Cf];refine⟨k-1,by omega,by omega,by simp[],by simp[g0],by simp[g1],?_,by rw[sk,DK,hd,hdr],by first|rfl|trivial⟩
    first|(rw[bJ (by simp[hl])];congr 1;omega)|(congr 1;omega)
   ·have h3:(((a.getD (k-1) 0:Nat):Int)!=((b.getD (k-1) 0:Nat):Int))=true:=by simp only[bne_iff_ne,ne_eq];omega
    rw[h3];simp only[if_true];refine Cv.seq (Cv.seq (Cv.aiG rfl (by rw[C.pairs];rfl) ?_));simp only[jf,AD,Ep,abr,cD,aR,bJ,dF,aO8,iU,aa,ne_eq,ae,not_false_eq_true,hl,g0,g1,g5,uv,SC,CG,OE];refine Cv.cond (t:=decide (((a.getD (k-1) 0:Nat):Int)<((b.getD (k-1) 0:Nat):Int))) (by rw[cW];simp only[bJ,aO8,hl,aa]) ?_;have hk1:k-1+1=k:=by omega
    by_cases iH:a.getD (k-1) 0<b.getD (k-1) 0
    ·have h4:decide (((a.getD (k-1) 0:Nat):Int)<((b.getD (k-1) 0:Nat):Int))=true:=b8 (by omega);rw[h4];simp only[if_true];refine Cv.seq (Cv.run ?_);simp only[oI,cD];refine Cv.ret (hQ _ ?_);rw[bJ (by simp[hl])]
     have:=SS ha.1 hlen hka (by rw[hk1];exact hdr) iH
     unfold pO;rw[if_pos (by omega)]
    ·have h4:decide (((a.getD (k-1) 0:Nat):Int)<((b.getD (k-1) 0:Nat):Int))=false:=cg (by omega);rw[h4];simp only[aKT,if_false];refine Cv.skip ?_;refine Cv.seq (Cv.run ?_);simp only[oI,cD];refine Cv.ret (hQ _ ?_);rw[bJ (by simp[hl])]
     have:=SS hb.1 hlen.symm hkb (by rw[hk1];exact hdr.symm) (by omega)
     unfold pO;rw[if_neg (by omega),if_pos (by omega)]
 ·have h1:((a.length:Int)!=(b.length:Int))=true:=by simp;omega
  rw[h1];simp only[if_true];refine Cv.seq (Cv.seq (Cv.run ?_));simp only[jf,AD,DH,cD,aR,dm,bJ,dF,aO8,uH,iU,aa,ne_eq,ae,not_false_eq_true,hl,g0,g1,eF T ha,eF T hb];refine Cv.cond (t:=decide ((a.length:Int)<(b.length:Int))) (by rw[cW];simp only[bJ,aO8,hl,aa]) ?_;by_cases iH:a.length<b.length
  ·have h2:decide ((a.length:Int)<(b.length:Int))=true:=b8 (by omega);rw[h2];simp only[if_true];refine Cv.seq (Cv.run ?_);simp only[oI,cD];refine Cv.ret (hQ _ ?_)
   have:=yg ha.1 nb iH
   rw[bJ (by simp[hl])];unfold pO;rw[if_pos (by omega)]
  ·have h2:decide ((a.length:Int)<(b.length:Int))=false:=cg (by omega);rw[h2];simp only[aKT,if_false];refine Cv.skip ?_;refine Cv.seq (Cv.run ?_);simp only[oI,cD];refine Cv.ret (hQ _ ?_)
   have:=yg hb.1 na (by omega)
   rw[bJ (by simp[hl])];unfold pO;rw[if_neg (by omega),if_pos (by omega)]
theorem uw{E:Env}(C:Ctx E){va vb:AV}{a b:List Nat}(ha:fN va a)(hb:fN vb b)(na:Norm a)(nb:Norm b)(la:a.length<1000000000000)(lb:b.length<1000000000000):
  mU E 121 [va,vb] (.int .i64 (pO (val a) (val b))):=by
 refine⟨fun fi h=>?_,?_⟩
 ·rw[C.fn,Mx]at h;cases h;rfl
 ·refine SI (C.ov 121 _ (by decide)) (by rw[C.fn];exact Mx) rfl ?_;refine ZE C ha hb na nb la lb rfl rfl rfl fun dx h4=>⟨fun id h=>(by cases h),[.int .i64 (pO (val a) (val b))],[],?_,rfl⟩
  show some [gt dx 4]=_
  rw[h4]
theorem aM{v:AV}{l:List Nat}(h:fN v l):aU v=true:=by
 rcases h.2 with rfl|⟨_,rfl|rfl⟩
 ·simp only[aU]
 ·rfl
 ·rfl
theorem kX{E:Env}(C:Ctx E){v:AV}{l:List Nat}(h:fN v l)(hlen:l.length<1000000000000):∃r,mU E 120 [v] r/\fN r (kq l):=by
 have:∃r,fN r (kq l)/\∃n,call E n 120 [v]=some r:=by
  have key:Cv E Zr ([v]++aK3 20 aZ) [] fun ex ts H=>∃r,fN r (kq l)/\(∀id,ex≠ .exit id)/\∃rs bs,iW H E ts [.tmp 2]=some rs/\bW H [kU rs]=some ([r],bs):=by
   refine acG (jb C.toOver) h hlen rfl rfl fun dx r h2 hr=>⟨r,hr,fun id h=>(by cases h),[r],[],?_,?_⟩
   ·show some [gt dx 2]=_
    rw[h2]
   ·unfold bW;rw[show bE [kU [r]]=true by simp[bE,kU,aM hr]];rfl
  obtain⟨n,ex,ts,H,h1,r,hr,h2⟩:=key;exact⟨r,hr,SI (C.ov 120 _ (by decide)) (by rw[C.fn];exact R9) rfl ⟨n,ex,ts,H,h1,h2⟩⟩
 obtain⟨r,hr,n,hn⟩:=this;exact⟨r,⟨fun fi h=>(by rw[C.fn,R9]at h;cases h;rfl),n,hn⟩,hr⟩
theorem aoU{E:Env}(C:Ctx E):∃pl,gX E 60=some pl/\pl 0=some (0,1)/\pl 1=some (1,1):=by
 have h:gX E 60=gX E0 60:=by unfold gX;rw[C.ty]
 rw[h];have a:(gX E0 60).map (fun f=>(f 0,f 1))=some (some (0,1),some (1,1)):=by kernel_rfl
 cases hp:gX E0 60 with
 |none=>rw[hp]at a;cases a
 |some pl=>rw[hp]at a;simp only[aLT,aKV.injEq,Prod.mk.injEq]at a;exact⟨pl,rfl,a.1,a.2⟩
theorem Zl{E:Env}(C:Ctx E):∃i,E.ty 60=some i/\i.isAgg=true/\i.size=2/\i.zero=some [.bool false,.aH]:=by
 rw[C.ty];obtain⟨i,hi⟩:∃i,E0.ty 60=some i:=aL7.1 (by kernel_rfl);have a1:(E0.ty 60).map (·.isAgg)=some true:=by kernel_rfl
 have a2:(E0.ty 60).map (·.size)=some 2:=by kernel_rfl
 have a3:(E0.ty 60).map (·.zero)=some (some [.bool false,.aH]):=by kernel_rfl
 rw[hi]at a1 a2 a3;exact⟨i,hi,by simpa using a1,by simpa using a2,by simpa using a3⟩
theorem aY{v:AV}{l:List Nat}(h:fN v l):v.cells=[v]/\df v=true:=by
 rcases h.2 with rfl|⟨_,rfl|rfl⟩<;>exact⟨rfl,rfl⟩
theorem QE{pl:Nat->Option (Nat×Nat)}(p0:pl 0=some (0,1))(p1:pl 1=some (1,1)){b:Bool}{v:AV}{l:List Nat}(h:fN v l):gV pl [.bool false,.aH] [(0,.bool b),(1,v)]=some [.bool b,v]:=by
 simp[gV,p0,p1,AV.cells]
 have:=(aY h).1
 unfold AV.cells at this;simp[this]
theorem se{E:Env}(C:Ctx E):fR E 60=some (.agg [.bool false,.aH]):=by obtain⟨i,h1,h2,_,h3⟩:=Zl C;simp[fR,h1,h2,h3]
theorem SB{E:Env}(C:Ctx E){H:Hp}{b:Nat}{c0 c1 x y:AV}(hb:H[b]?=some (.cells .live [c0,c1]))(hx:df x=true)(hy:df y=true):iO E H 60 (.b9 b 0) (.agg [x,y])=some [(b,.cells .live [x,y])]:=by obtain⟨i,h1,h2,h4,h3⟩:=Zl C;simp[iO,h1,hb,h4,AV.cells,hx,hy,cH]
theorem aky{E:Env}(C:Ctx E){H:Hp}{b:Nat}{x y:AV}(hb:H[b]?=some (.cells .live [x,y])):gT E H 60 (.b9 b 0)=some (.agg [x,y]):=by obtain⟨i,h1,h2,h4,h3⟩:=Zl C;simp[gT,HP,hb,jq,h1,h2,h4]
noncomputable def signedC:Code:=(match Tryz.f87.body with|some c=>c|none=>.skip)
theorem Ua:E0.fn 87=some {code:=signedC,ntmps:=15,results:=[.cell 4 60],pure:=true,fL:=false}:=by kernel_rfl
theorem ko{E:Env}(C:Ctx E){m:AV}{l:List Nat}(h:fN m l)(hlen:l.length<1000000000000)(neg:Bool):
  ∃r,mU E 87 [.bool neg,m] r/\fm r (if neg then-(val l:Int)else val l):=by
 refine Fm (C.ov 87 _ (by decide)) (by rw[C.fn];exact Ua) rfl ?_;have T:=jb C.toOver;show Cv E signedC ([.bool neg,m]++aK3 13 aZ) [] _
 generalize hts:[AV.bool neg,m]++aK3 13 aZ=ts;have hl:ts.length=15:=by subst hts;rfl
 have g0:gt ts 0=.bool neg:=by subst hts;rfl
 have g1:gt ts 1=m:=by subst hts;rfl
 clear hts;obtain⟨r,hr,JZ⟩:=kX C h hlen;obtain⟨pl,hp,p0,p1⟩:=aoU C;obtain⟨i68,z1,_,_,z2⟩:=Zl C;have hz:(E.ty 60).bind (·.zero)=some [.bool false,.aH]:=by rw[z1];exact z2
 refine Cv.seq (Cv.run ?_);simp only[cD,aR,ne_eq,YZ,se C];rw[show([]:Hp).length=0 from rfl,show(cE.bU [(0,cz.cells gu.live (AV.agg [AV.bool false,AV.aH]).cells)]).app []=[.cells .live [.bool false,.aH]]from rfl];refine Cv.seq (Cv.run ?_);simp only[jf,dF,ne_eq,ae,not_false_eq_true,g1];refine agG (al:=[m]) (by simp only[oa,cW,bJ,aO8,hl,aa]) (by simp[bE,aM h]) hr ?_;simp only[oL,cD,bJ,aO8,aa,hl];refine Cv.seq (Cv.run ?_);have iH:(kq l).length<1000000000000:=by
  obtain⟨n,hn⟩:=sB l
  have:=congrArg List.length hn
  simp at this;omega
 have fin:∀(b:Bool) (dx:List AV),b=(neg&&decide (0<(kq l).length))->gt dx 4=.b9 0 0->(∀id,Ex.ret≠ .exit id)/\∃rs r' bs,iW [.cells .live [.bool b,r]] E dx [.cell 4 60]=some rs/\bW [.cells .live [.bool b,r]] [kU rs]=some ([r'],bs)/\fm r' (if neg then-(val l:Int)else val l):=by
  intro b dx hb h4;refine⟨fun id h=>(by cases h),[.agg [.bool b,r]],.agg [.bool b,r],[],?_,Ml (by simp[aU,bE,kU,aM JZ]),b,r,kq l,rfl,JZ,kG l,?_,?_⟩
  ·have h4':dx[4]?.getD aZ=.b9 0 0:=h4;simp only[iW,h4',aky C (H:=[.cells .live [.bool b,r]]) (b:=0) (x:=.bool b) (y:=r) rfl]
  ·intro vO KQ;rw[hb,KQ]at vO;simp at vO
  ·rw[jN,hb];cases neg with
   |false=>simp
   |true=>
    by_cases h0:0<(kq l).length
    ·simp[h0]
    ·have KQ:kq l=[]:=by cases ht:kq l with
      |nil=>rfl
      |cons a t=>rw[ht]at h0;simp at h0
     have hv:=jN l;rw[KQ]at hv;simp only[val]at hv;simp[h0,<-hv]
 cases neg with
 |true=>
  have hd:decide (((kq l).length:Int)>0)=decide (0<(kq l).length):=by congr 1;simp
  simp only[jf,pE,DH,xN,tH,aR,dm,jO,bJ,dF,aO8,FI,uH,sI,wo,aPa,aPd,aN6,Ii,beq_self_eq_true,Ck,aa,ne_eq,ae,not_false_eq_true,bK,hl,g0,eF T JZ,hd];rw[Sr hp hz (vs:=[(0,.bool (decide (0<(kq l).length))),(1,r)]) (by simp only[xT,cW,bJ,dF,aO8,hl,aa,ne_eq,ae,not_false_eq_true]) (QE p0 p1 JZ)];simp only[cD,dT,bJ,dF,aO8,aa,ne_eq,ae,not_false_eq_true,SG,hl,SB C (H:=[.cells .live [.bool false,.aH]]) (b:=0) (c0:=.bool false) (c1:=.aH) rfl (show df (.bool (decide (0<(kq l).length)))=true from rfl) (aY JZ).2];refine Cv.ret (fin (decide (0<(kq l).length)) _ (by simp) (by simp[bJ,dF,hl]))
 |false=>
  simp only[jf,pE,DH,xN,tH,aR,iK,bJ,dF,aO8,Ds,sI,wo,aPa,aPd,aN6,Ii,aa,ne_eq,ae,not_false_eq_true,bK,hl,g0,show(some false==some true)=false from rfl];rw[Sr hp hz (vs:=[(0,.bool false),(1,r)]) (by simp only[xT,cW,bJ,dF,aO8,hl,aa,ne_eq,ae,not_false_eq_true]) (QE p0 p1 JZ)];simp only[cD,dT,bJ,dF,aO8,aa,ne_eq,ae,not_false_eq_true,SG,hl,SB C (H:=[.cells .live [.bool false,.aH]]) (b:=0) (c0:=.bool false) (c1:=.aH) rfl (show df (.bool false)=true from rfl) (aY JZ).2];refine Cv.ret (fin false _ (by simp) (by simp[bJ,dF,hl]))
def cellAt:Hp->Nat->Nat->Option AV
 |.cells .live cs::_,0,o=>cs[o]?
 |.cells .ro cs::_,0,o=>cs[o]?
 |_::H,b+1,o=>cellAt H b o
 |_,_,_=>none
theorem fq{cs:List AV}{H:Hp}{o:Nat}:cellAt (.cells .live cs::H) 0 o=cs[o]?:=rfl
theorem Zy{cs:List AV}{H:Hp}{o:Nat}:cellAt (.cells .ro cs::H) 0 o=cs[o]?:=rfl
theorem kP{x:cz}{H:Hp}{b o:Nat}:cellAt (x::H) (b+1) o=cellAt H b o:=by cases x<;>(try rfl);rename_i s cs;cases s<;>rfl
theorem iX:∀{H:Hp} {b o:Nat},cellAt H b o=(match H[b]? with|some (.cells st cs)=>if st=.dead then none else cs[o]?|_=>none)
 |[],b,o=>by cases b<;>rfl
 |x::H,b+1,o=>by rw[kP,iX];simp
 |x::H,0,o=>by
  cases x with
  |cells st cs=>cases st<;>rfl
  |_=>rfl
def One(E:Env)(t:Nat):Prop:=∃i,E.ty t=some i/\i.isAgg=false/\i.size=1
theorem js{E:Env}{t:Nat}(h:One E t){H:Hp}{b o:Nat}:gT E H t (.b9 b o)=cellAt H b o:=by
 obtain⟨i,h1,h2,_⟩:=h;rw[iX];unfold gT HP;simp only;cases H[b]? with
 |none=>rfl
 |some x=>
  cases x with
  |cells st cs=>
   simp only;by_cases hd:st=.dead
   ·simp only[hd,if_true]
   ·simp only[hd,if_false,jq,h1,h2];rfl
  |_=>rfl
def S5(E:Env)(t:Nat):Bool:=match E.ty t with
 |some i=>!i.isAgg&&i.size==1
 |none=>false
theorem ajE{E:Env}{t:Nat}(h:S5 E t=true):One E t:=by
 unfold S5 at h;cases hi:E.ty t with
 |none=>rw[hi]at h;cases h
 |some i=>
  rw[hi]at h;simp only[aLR,Bool.not_eq_true',beq_iff_eq]at h;exact⟨i,hi,h.1,h.2⟩
theorem RV{E:Env}(C:Ctx E){t:Nat}(h:S5 E0 t=true):One E t:=by refine ajE ?_;unfold S5 at h⊢;rw[C.ty];exact h
theorem Hm{E:Env}(C:Ctx E):One E 4:=RV C (by kernel_rfl)
theorem alP{E:Env}(C:Ctx E):One E 3:=RV C (by kernel_rfl)
theorem zt{E:Env}(C:Ctx E):One E 58:=RV C (by kernel_rfl)
def Rt(E:Env)(t n:Nat):Bool:=match E.ty t with
 |some i=>i.isAgg&&i.size==n
 |none=>false
theorem alS{E:Env}(C:Ctx E){t n:Nat}(h:Rt E0 t n=true):Rt E t n=true:=by unfold Rt at h⊢;rw[C.ty];exact h
def lZ(n:Nat):Hp->Nat->Nat->Option AV
 |.cells .live cs::_,0,o=>if o+n<=cs.length then some (.agg ((cs.drop o).take n))else none
 |.cells .ro cs::_,0,o=>if o+n<=cs.length then some (.agg ((cs.drop o).take n))else none
 |_::H,b+1,o=>lZ n H b o
 |_,_,_=>none
theorem mW{n:Nat}{cs:List AV}{H:Hp}{o:Nat}:lZ n (.cells .live cs::H) 0 o=if o+n<=cs.length then some (.agg ((cs.drop o).take n))else none:=rfl
theorem abR{n:Nat}{cs:List AV}{H:Hp}{o:Nat}:lZ n (.cells .ro cs::H) 0 o=if o+n<=cs.length then some (.agg ((cs.drop o).take n))else none:=rfl
theorem qw{n:Nat}{x:cz}{H:Hp}{b o:Nat}:lZ n (x::H) (b+1) o=lZ n H b o:=by cases x<;>(try rfl);rename_i s cs;cases s<;>rfl
theorem lW{n:Nat}:∀{H:Hp} {b o:Nat},lZ n H b o=(match H[b]? with|some (.cells st cs)=>if st=.dead then none else if o+n<=cs.length then some (.agg ((cs.drop o).take n))else none|_=>none)
 |[],b,o=>by cases b<;>rfl
 |x::H,b+1,o=>by rw[qw,lW];simp
 |x::H,0,o=>by
  cases x with
  |cells st cs=>cases st<;>rfl
  |_=>rfl
theorem qc{E:Env}{t n:Nat}(h:Rt E t n=true){H:Hp}{b o:Nat}:gT E H t (.b9 b o)=lZ n H b o:=by
 unfold Rt at h;cases hi:E.ty t with
 |none=>rw[hi]at h;cases h
 |some i=>
  rw[hi]at h;simp only[aLR,beq_iff_eq]at h;obtain⟨h1,rfl⟩:=h;rw[lW];unfold gT HP;simp only;cases H[b]? with
  |none=>rfl
  |some x=>
   cases x with
   |cells st cs=>
    simp only;by_cases hd:st=.dead
    ·simp only[hd,if_true]
    ·simp only[hd,if_false,jq,hi,h1,if_true]
   |_=>rfl
def mK(n:Nat)(xs:List AV):Hp->Nat->Nat->Option cz
 |.cells .live cs::_,0,o=>if(xs.length==n&&(decide (o+n<=cs.length)&&xs.all df))=true then some (.cells .live (cH cs o xs))else none
 |_::H,b+1,o=>mK n xs H b o
 |_,_,_=>none
theorem mH{n:Nat}{xs cs:List AV}{H:Hp}{o:Nat}:mK n xs (.cells .live cs::H) 0 o=if(xs.length==n&&(decide (o+n<=cs.length)&&xs.all df))=true then some (.cells .live (cH cs o xs))else none:=rfl
theorem qb{n:Nat}{xs:List AV}{x:cz}{H:Hp}{b o:Nat}:mK n xs (x::H) (b+1) o=mK n xs H b o:=by cases x<;>(try rfl);rename_i s cs;cases s<;>rfl
theorem kH{n:Nat}{xs:List AV}:∀{H:Hp} {b o:Nat},mK n xs H b o=(match H[b]? with|some (.cells .live cs)=>if(xs.length==n&&(decide (o+n<=cs.length)&&xs.all df))=true then some (.cells .live (cH cs o xs))else none|_=>none)
 |[],b,o=>by cases b<;>rfl
 |x::H,b+1,o=>by rw[qb,kH];simp
 |x::H,0,o=>by
  cases x with
  |cells st cs=>cases st<;>rfl
  |_=>rfl
def Mj(E:Env)(t n:Nat):Bool:=match E.ty t with
 |some i=>i.size==n
 |none=>false
theorem aoZ{E:Env}(C:Ctx E){t n:Nat}(h:Mj E0 t n=true):Mj E t n=true:=by unfold Mj at h⊢;rw[C.ty];exact h
theorem lD{E:Env}{t n:Nat}(h:Mj E t n=true){H:Hp}{b o:Nat}{v:AV}:iO E H t (.b9 b o) v=(mK n v.cells H b o).map fun x=>[(b,x)]:=by
 unfold Mj at h;cases hi:E.ty t with
 |none=>rw[hi]at h;cases h
 |some i=>
  rw[hi]at h;simp only[beq_iff_eq]at h;subst h;rw[kH];unfold iO;simp only[hi];cases H[b]? with
  |none=>rfl
  |some x=>
   cases x with
   |cells st cs=>
    cases st with
    |live=>
     simp only;by_cases h1:v.cells.length=i.size<;>by_cases h2:o+i.size<=cs.length<;>cases h3:v.cells.all df<;>simp[h1,h2]<;>omega
    |_=>rfl
   |_=>rfl
theorem cQ{b:Nat}{x:cz}{H:Hp}:(cE.bU [(b,x)]).app H=eE H b x:=rfl
theorem lP{b:Nat}{x y:cz}{H:Hp}:eE (y::H) (b+1) x=y::eE H b x:=by
 unfold eE;simp only[aMm,Nat.add_lt_add_iff_right,List.set_cons_succ,aPr]
 split<;>rfl
theorem ga{x y:cz}{H:Hp}:eE (y::H) 0 x=x::H:=by
 unfold eE
 simp
theorem aqu:(some true==some true)=true:=rfl
theorem age:(some false==some true)=false:=rfl
theorem anz:(some true==some false)=false:=rfl
theorem aq7:(some false==some false)=true:=rfl
theorem gb{cs xs:List AV}{o:Nat}:cH cs o xs=cs.take o++xs++cs.drop (o+xs.length):=rfl
theorem E3{E:Env}(C:Ctx E):Rt E 60 2=true:=alS C (by kernel_rfl)
theorem G0{E:Env}(C:Ctx E):Mj E 60 2=true:=aoZ C (by kernel_rfl)
theorem Sy{E:Env}(C:Ctx E){b:Bool}{v:AV}{l:List Nat}(h:fN v l):fT E 60 [(0,.bool b),(1,v)]=some (.agg [.bool b,v]):=by obtain⟨pl,hp,p0,p1⟩:=aoU C;obtain⟨i68,z1,_,_,z2⟩:=Zl C;unfold fT;rw[hp,show(E.ty 60).bind (·.zero)=some [.bool false,.aH]by rw[z1];exact z2];simp only[QE p0 p1 h,aLT]
def isBool(E:Env)(t:Nat):Bool:=match E.ty t with
 |some i=>(match i.cV with|.bool=>true|_=>false)
 |none=>false
theorem K0{E:Env}(C:Ctx E){t:Nat}(h:isBool E0 t=true):isBool E t=true:=by unfold isBool at h⊢;rw[C.ty];exact h
theorem RX{E:Env}{t n:Nat}(h:isBool E t=true){a b:Bool}:yJ E (n+1) t (.bool a) (.bool b)=some (a==b):=by
 unfold isBool at h;cases hi:E.ty t with
 |none=>rw[hi]at h;cases h
 |some i=>
  rw[hi]at h;obtain⟨cV,isAgg,size,bytes,zero,eS⟩:=i;cases cV<;>first|(cases h;done)|simp[yJ,hi]
theorem gM{E:Env}{c:Bool}{t:Nat}(h:isBool E t=true){a b:Bool}:dC E c .neq t (.bool a) (.bool b)=some (.bool (a !=b)):=by
 simp only[dC,dC.zl,aN6,if_true,RX h,aLT];cases a<;>cases b<;>rfl
theorem hJ{E:Env}{c:Bool}{t:Nat}(h:isBool E t=true){a b:Bool}:dC E c .eql t (.bool a) (.bool b)=some (.bool (a==b)):=by simp only[dC,dC.zl,aN6,if_true,RX h,aLT]
theorem IF{E:Env}(C:Ctx E):isBool E 4=true:=K0 C (by kernel_rfl)
theorem Fg{b:Bool}:df (.bool b)=true:=rfl
theorem aqU{E:Env}(C:Ctx E){b o:Nat}:dy E 60 (.b9 b o) 0=some (.b9 b o)/\dy E 60 (.b9 b o) 1=some (.b9 b (o+1)):=by
 have h:∀f,dy E 60 (.b9 b o) f=(dy E0 60 (.b9 0 0) f).bind fun v=>match v with|.b9 _ k=>some (.b9 b (o+k))|_=>none:=by
  intro f;unfold dy;rw[C.ty];cases E0.ty 60 with
  |none=>rfl
  |some i=>
   obtain⟨cV,isAgg,size,bytes,zero,eS⟩:=i;cases cV<;>try rfl
   rename_i fs;simp only;cases fs[f]? with
   |none=>rfl
   |some fd=>
    simp only;cases E0.ty fd.type with
    |none=>rfl
    |some fi=>
     simp only;by_cases hz:fi.size=0
     ·simp only[hz,if_true];rfl
     ·simp only[hz,if_false,aLM];rfl
 rw[h 0,h 1,show dy E0 60 (.b9 0 0) 0=some (.b9 0 0)by kernel_rfl,show dy E0 60 (.b9 0 0) 1=some (.b9 0 1)by kernel_rfl];exact⟨rfl,rfl⟩
theorem tf{E:Env}(C:Ctx E){b o:Nat}:dy E 60 (.b9 b o) 0=some (.b9 b o):=(aqU C).1
theorem sW{E:Env}(C:Ctx E){b o:Nat}:dy E 60 (.b9 b o) 1=some (.b9 b (o+1)):=(aqU C).2
theorem gR{l:List AV}:(AV.agg l).cells=l:=rfl
def yX(z:Int):Int:=if z=0 then 0 else if z<0 then-1 else 1
theorem uW{l:List Nat}(hn:Norm l)(dY:l≠[]):0<val l:=by
 have:=BG hn dY
 have h2:0<4294967296^(l.length-1):=Nat.pow_pos (by omega);omega
def Fit(z:Int):Prop:=∃n,n<10000000000/\z.natAbs<4294967296^n
theorem xE{l:List Nat}{z:Int}(hn:Norm l)(hz:z.natAbs=val l)(h:Fit z):l.length<10000000001:=by
 obtain⟨n,h1,h2⟩:=h;by_cases he:l=[]
 ·subst he;simp
 ·have h3:=BG hn he;have h4:l.length-1<n:=by
   have:4294967296^(l.length-1)<4294967296^n:=by omega
   exact(Nat.pow_lt_pow_iff_right (by omega)).1 this
  omega
theorem oO{b:Bool}{n:Nat}:(if b=true then-(n:Int)else(n:Int)).natAbs=n:=by cases b<;>simp
noncomputable def ZL:Code:=(match Tryz.f75.body with|some c=>c|none=>.skip)
theorem ad5:E0.fn 75=some {code:=ZL,ntmps:=11,results:=[.tmp 2],pure:=true,fL:=false}:=by kernel_rfl
theorem jP{E:Env}(C:Ctx E){v:AV}{z:Int}(h:fm v z):aP E 75 [v]=some (.int .i64 (yX z)):=by
 suffices hh:∃r,aP E 75 [v]=some r/\r=.int .i64 (yX z)by obtain⟨r,h1,rfl⟩:=hh;exact h1
 obtain⟨neg,m,l,rfl,hm,hn,tq,rfl⟩:=h;refine fn1 (C.ov 75 _ (by decide)) (by rw[C.fn];exact ad5) rfl (by decide) ?_;intro ts hl g0;have T:=jb C.toOver;show W E ZL ts [] _
 unfold ZL;simp only[Tryz.f75,gJ,qk,gS,fF,gI,dB,fB,Ge,gN,vV,eG,lu,lk,jy,uM,xu,dE,DU,iL,iG,FE,eT,cD,aR,dm,ch,dQ,cW,ef,eQ,jl,cO,iA,qj,bE,aU,aPj,qC,bK,bJ,dF,aO8,aPa,aPd,Ru,aa,ne_eq,ae,not_false_eq_true,gR,aPg,aMm,aO9,aLM,bI,aPb,hl,g0,tf C,sW C,js (Hm C),js (zt C),fq,eF T hm];by_cases hz:l=[]
 ·subst hz;cases neg
  ·rfl
  ·exact absurd rfl (tq rfl)
 ·have h0:((l.length:Int)==0)=false:=by
   cases l with
   |nil=>exact absurd rfl hz
   |cons a t=>simp;omega
  have hv:=uW hn hz;rw[h0];unfold yX;cases neg
  ·simp only[aKT,if_false];rw[if_neg (by omega),if_neg (by omega)]
  ·simp only[aKT,if_false,if_true];rw[if_neg (by omega),if_pos (by omega)]
noncomputable def agO:Code:=(match Tryz.f146.body with|some c=>c|none=>.skip)
theorem aiD:E0.fn 146=some {code:=agO,ntmps:=15,results:=[.cell 2 60],pure:=true,fL:=false}:=by kernel_rfl
theorem FK{E:Env}(C:Ctx E){v:AV}{z:Int}(h:fm v z):∃r,aP E 146 [v]=some r/\fm r (-z):=by
 obtain⟨neg,m,l,rfl,hm,hn,tq,rfl⟩:=h;refine fn1 (C.ov 146 _ (by decide)) (by rw[C.fn];exact aiD) rfl (by decide) ?_;intro ts hl g0;have T:=jb C.toOver;show W E agO ts [] _
 unfold agO;have key:∀b:Bool,b=(!neg&&decide ((l.length:Int)>0))->fm (.agg [.bool b,m]) (-(if neg=true then-(val l:Int)else val l)):=by
  intro b hb;refine⟨b,m,l,rfl,hm,hn,?_,?_⟩
  ·intro h1 h2;subst h2;simp[hb]at h1
  ·by_cases hz:l=[]
   ·subst hz;cases neg<;>cases b<;>simp[val]
   ·have:0<l.length:=by cases l with
     |nil=>exact absurd rfl hz
     |cons a t=>simp
    have h1:decide ((l.length:Int)>0)=true:=b8 (by omega);rw[h1,aPj]at hb;subst hb;cases neg<;>simp
 cases neg
 ·simp only[Tryz.f146,↓reduceIte,qk,gS,dB,fB,lu,lk,jy,mf,xu,gx,Yv,oX,DU,iL,gE,iG,T2,FE,Sh,eT,tH,cD,aR,dm,dT,jO,ch,iF,dQ,cW,ef,Gx,eQ,jl,Fs,Gd,cO,nu,RO,iA,qj,bE,aU,aPj,aPs,aPt,qC,bK,bJ,dF,aO8,sI,wo,aPa,aPd,aN6,Ii,beq_self_eq_true,Ck,PB,aa,ah,ne_eq,ae,not_false_eq_true,gR,aPg,aPr,aMm,aO9,aLM,bI,aPb,fq,mW,qw,mH,qb,cQ,lP,ga,gb,Fg,aLT,aN1,aPy,aPl,aPu,aPm,aPp,aPw,aPq,aKR,decide_true,aPx,hl,g0,tf C,sW C,js (Hm C),js (zt C),eF T hm,se C,Bool.not_false,qc (E3 C),lD (G0 C),Sy C hm,(aY hm).2,aM hm];exact key _ rfl
 ·simp only[Tryz.f146,↓reduceIte,qk,gS,dB,fB,lu,lk,jy,mf,xu,gx,Yv,oX,DU,iL,gE,iG,T2,FE,Sh,eT,tH,cD,aR,dm,dT,iK,ch,iF,dQ,cW,ef,Gx,eQ,jl,Fs,Gd,cO,nu,Su,iA,qj,bE,aU,aPj,aPs,aPt,qC,bK,bJ,dF,aO8,sI,wo,aPa,aPd,aN6,Ii,beq_self_eq_true,Ck,PB,aa,ah,ne_eq,ae,not_false_eq_true,gR,aPg,aPr,aMm,aO9,aLM,bI,aPb,fq,mW,qw,mH,qb,cQ,lP,ga,age,gb,Fg,aLT,aN1,aPy,aPl,aPu,aPm,aPp,aPw,aPq,aKR,decide_true,aPx,hl,g0,tf C,sW C,js (Hm C),js (zt C),eF T hm,se C,Bool.not_true,qc (E3 C),lD (G0 C),Sy C hm,(aY hm).2,aM hm];exact key _ rfl
noncomputable def GZ:Code:=(match Tryz.f88.body with|some c=>c|none=>.skip)
theorem PX:E0.fn 88=some {code:=GZ,ntmps:=26,results:=[.tmp 4],pure:=true,fL:=false}:=by kernel_rfl
theorem kL{E:Env}(C:Ctx E){v w:AV}{x y:Int}(h:fm v x)(k:fm w y)(fx:Fit x)(fy:Fit y):aP E 88 [v,w]=some (.int .i64 (pO x y)):=by
 suffices hh:∃r,aP E 88 [v,w]=some r/\r=.int .i64 (pO x y)by obtain⟨r,h1,rfl⟩:=hh;exact h1
 obtain⟨na,m,a,rfl,hm,hn,tq,rfl⟩:=h;obtain⟨nb,m',b,rfl,kM,yU,Lz,rfl⟩:=k;refine fn2 (C.ov 88 _ (by decide)) (by rw[C.fn];exact PX) rfl (by decide) ?_;intro ts hl g0 g1;have T:=jb C.toOver;show W E GZ ts [] _
 unfold GZ;have la:=xE hn oO fx;have lb:=xE yU oO fy;have o1:=eh (uw C hm kM hn yU (by omega) (by omega));have o2:=eh (uw C kM hm yU hn (by omega) (by omega));simp only[Tryz.f88,gJ,qk,gS,fF,gI,dB,fB,Ge,gN,vV,eG,lu,lk,jy,uM,xu,dE,DU,iL,iG,FE,rQ,cD,aR,ch,dQ,nP,cW,ef,oH,eQ,jl,cO,iA,qj,bE,aU,aPj,aPs,wZ,bK,bJ,dF,aO8,aPa,aPd,aa,ne_eq,ae,not_false_eq_true,gR,aPg,aPr,aMm,aO9,aLM,bI,aPf,fq,kP,hl,g0,g1,tf C,sW C,js (Hm C),js (zt C),aM hm,aM kM,o1,o2,gM (IF C)];have pa:na=true->0<val a:=fun h=>uW hn (tq h)
 have pb:nb=true->0<val b:=fun h=>uW yU (Lz h)
 unfold pO;cases na<;>cases nb<;>simp only[bne_self_eq_false,aKT,if_false,if_true,Bool.false_bne,Bool.bne_false,AV.int.injEq,true_and]
 ·have:=pb rfl;repeat' split<;>first|rfl|omega
 ·have:=pa rfl;repeat' split<;>first|rfl|omega
 ·repeat' split<;>first|rfl|omega
theorem Eh{E:Env}(C:Ctx E){t:Nat}{k:IntKind}(h:iI E0 t=some k):iI E t=some k:=by unfold iI at h⊢;rw[C.ty];exact h
theorem fw{E:Env}{ops rest:List Oper}{ts:List AV}{H:Hp}{q:List AV->Hp->Prop}{d:Option Nat}{t:Nat}{p:String}{af:Array Edge}{s1 d1:Nat}{k0 k':IntKind}{x:Operand}(hs:iI E s1=some k0)(hd:iI E d1=some k'):
  fA E ops (⟨d,.convert s1 d1 x,t,p,af,none⟩::rest) ts H q=ck (cn ts x) fun a=>ck (toK k' a) fun v=>fA E ops rest (bK d v ts) H q:=by
 rw[qm rfl (by intro c h;cases h)];simp only[eL];unfold iI at hs hd;cases h1:E.ty s1 with
 |none=>rw[h1]at hs;cases hs
 |some si=>
  cases h2:E.ty d1 with
  |none=>rw[h2]at hd;cases hd
  |some di=>
   rw[h1]at hs;rw[h2]at hd;obtain⟨cV,isAgg,size,bytes,zero,eS⟩:=si;obtain⟨Wi,Zs,af2,YQ,af9,agd⟩:=di;cases cV<;>first|(cases hs;done)|skip
   cases Wi<;>first|(cases hd;done)|skip
   simp only[aKV.injEq]at hd;subst hd;cases cn ts x with
   |none=>rfl
   |some v=>cases v<;>simp[IV,h1,h2,toK,ck,Hn,qC]
theorem ua{E:Env}(C:Ctx E):iI E 156=some .u32/\iI E 154=some .u64/\iI E 2=some .i64/\iI E 3=some .i64:=
 ⟨Eh C (by kernel_rfl),Eh C (by kernel_rfl),Eh C (by kernel_rfl),Eh C (by kernel_rfl)⟩
theorem akw{E:Env}(C:Ctx E):One E 156:=RV C (by kernel_rfl)
theorem vg{E:Env}(C:Ctx E):Mj E 156 1=true:=aoZ C (by kernel_rfl)
theorem SW{n:Nat}:iE [.int .u32 0] n=cM (aK3 n 0):=by
 induction n with
 |zero=>rfl
 |succ n ih=>
  rw[aPI];show _=AV.int .u32 0::cM (aK3 n 0)
  rw[<-ih];rfl
theorem Zw{E:Env}(C:Ctx E){aL:Nat}{k k':IntKind}{n:Nat}(h:n<100000000000):fM E aL 58 (.int k (n:Int)) (.int k' (n:Int))=some (.aI aL 0 n 1 n,[(aL,.cells .live (cM (aK3 n 0)))]):=by have T:=jb C.toOver;obtain⟨i,e1,e2,e3⟩:=T.t66;obtain⟨j,f1,f2,f3,f4,f5,f6⟩:=T.t126;obtain⟨cV,isAgg,size,bytes,zero,eS⟩:=i;simp only at e2;subst e2;simp only[fM,e1,f1,f5,f6,f4];rw[if_pos ⟨by omega,Int.le_refl _,by unfold gO;simp only[aPh];omega,by omega,rfl,by omega⟩];simp[SW]
theorem NV{E:Env}(C:Ctx E){b n:Nat}{k:IntKind}{z:Int}(h0:0<=z)(h1:z<(n:Int)):cF E 58 (.aI b 0 n 1 n) (.int k z)=some (.b9 b z.toNat):=by
 have T:=jb C.toOver;obtain⟨i,e1,e2,_⟩:=T.t66;obtain⟨j,f1,f2,f3,f4,_⟩:=T.t126;simp only[cF,e1,e2,f1,f4];by_cases hz:0<=z/\z<(n:Int)
 ·simp[hz]
 ·exact absurd ⟨h0,h1⟩ hz
theorem pH{l:List Nat}:(cM l).length=l.length:=by simp[cM]
theorem xg{l:List Nat}{i x:Nat}(h:i<l.length):cH (cM l) i [.int .u32 (x:Int)]=cM (l.set i x):=by unfold cH cM;rw[List.set_eq_take_append_cons_drop,if_pos h];simp[List.map_take,List.map_drop]
theorem NZ{H:Hp}{m:Nat}:∀{l:List Nat},dP (fz H (m+1)) (cM l)=some ((cM l).map fun v=>(v,[]))
 |[]=>rfl
 |x::l=>by
  have hx:fz H (m+1) (AV.int .u32 x)=some (.int .u32 x,[]):=rfl;show dP (fz H (m+1)) (AV.int .u32 x::cM l)=some ((AV.int .u32 x::cM l).map fun v=>(v,[]))
  unfold dP;rw[hx,NZ (l:=l)];rfl
theorem oe{H:Hp}{n b off len esz k:Nat}{st:gu}{cs:List AV}{r:List (AV×List Nat)}(h:H[b]?=some (.cells st cs))(hd:st≠ .dead)(hl:¬cs.length<off+len*esz)(hr:dP (fz H n) ((cs.drop off).take (len*esz))=some r):
  fz H (n+1) (.aI b off len esz k)=some (.aK (r.map (·.1)) len,b::r.flatMap (·.2)):=by
 unfold fz;simp only[h,hr];rw[if_neg (by simp[hd];omega)];rfl
theorem xc{H:Hp}{b:Nat}{l:List Nat}{st:gu}(h:H[b]?=some (.cells st (cM l)))(hd:st≠ .dead):bW H [.aI b 0 l.length 1 l.length]=some ([.aK (cM l) l.length],[b]):=by
 have h2:List.take (l.length*1) (List.drop 0 (cM l))=cM l:=by rw[aPp,aPV,<-pH (l:=l),List.take_length]
 have h3:=oe (n:=39) (off:=0) (len:=l.length) (esz:=1) (k:=l.length) h hd (by rw[pH];omega) (by rw[h2];exact NZ);unfold bW;rw[show bE [AV.aI b 0 l.length 1 l.length]=false by simp[bE,aU]];simp only[aKT,if_false];unfold dP;rw[h3];have h4:((cM l).map fun v=>(v,([]:List Nat))).map (·.1)=cM l:=by rw[List.map_map];exact List.map_id _
 have h5:∀m:List AV,(m.map fun v=>(v,([]:List Nat))).flatMap (·.2)=[]:=by
  intro m;induction m with
  |nil=>rfl
  |cons a m ih=>rw[List.map_cons,aMk,ih];rfl
 rw[h4,h5];rfl
theorem wrap_u32{n:Nat}:aX .u32 (n:Int)=((n%4294967296:Nat):Int):=by
 show IntKind.u32.wrap _=_
 rw[IntKind.wrap_u32];omega
theorem wrap_u64{n:Nat}(h1:n<18446744073709551616):aX .u64 (n:Int)=n:=IntWalk.u64_in _ ⟨by omega,by omega⟩
theorem lR{E:Env}{c:Bool}{t:Nat}{a:Nat}{k:IntKind}:dC E c .shr t (.int .u64 (a:Nat)) (.int k 32)=some (.int .u64 ((a/4294967296:Nat):Int)):=by
 simp only[dC];rw[if_neg (by decide)]
 have:(min (Int.toNat 32) IntKind.u64.bits)=32:=by decide
 rw[this];congr 2;show Int.fdiv (a:Int) ((2:Int)^32)=_
 rw[aPK _ (by decide)];rfl
def aeB:Code->Code
 |.seq a _=>a
 |c=>c
def TY:Code->Code
 |.seq _ b=>b
 |c=>c
noncomputable def DF:Code:=(match Tryz.f181.body with|some c=>c|none=>.skip)
noncomputable def Yw:Code:=TY (TY DF)
theorem acR:E0.fn 181=some {code:=DF,ntmps:=57,results:=[.tmp 4],pure:=true,fL:=false}:=by kernel_rfl
theorem Wx:DF=.seq (aeB DF) (.seq (aeB (TY DF)) Yw):=by kernel_rfl
theorem cJ{l:List Nat}{i:Nat}(h:i<l.length):val (l.take (i+1))=val (l.take i)+4294967296^i*l.getD i 0:=by rw[List.take_succ,oM,List.length_take,aPM (by omega),aPn,aL5 h];simp[val]
theorem fU{l:List Nat}{i d:Nat}(h:i<l.length):val ((l.set i d).take (i+1))=val (l.take i)+4294967296^i*d:=by rw[cJ (by simpa using h),aPR (aKR _),aPn,aNl h];rfl
theorem dL{l:List Nat}{i d B:Nat}(hl:∀x∈l,x<B)(hd:d<B):∀x∈l.set i d,x<B:=by
 intro x hx;rcases List.mem_or_eq_of_mem_set hx with h|h
 ·exact hl x h
 ·omega
theorem nQ{H:Hp}{al:List AV}:ow false H al=bW H al:=rfl
theorem I8{E:Env}(C:Ctx E){v w:AV}{a b:List Nat}(ha:fN v a)(hb:fN w b)(la:a.length<10000000001)(hle:b.length<=a.length){G:AV->Prop}(hG:∀l,fN (.aK (cM l) l.length) l->val l=val a+val b->l.length=a.length+1->G (.aK (cM l) l.length))
  {ts:List AV} (hl:ts.length=57) (g0:gt ts 0=v) (g1:gt ts 1=w):W E Yw ts [] (oS E [.tmp 4] G):=by
 have T:=jb C.toOver;unfold Yw DF;have zY:aX .i64 ((a.length:Int)+1)=((a.length+1:Nat):Int):=by rw[wrap_i64 (by omega) (by omega)];simp
 simp only[Tryz.f181,TY,↓reduceIte,qk,gS,fF,dB,wb,fB,lu,jy,uM,xu,gx,dE,iG,pS,eT,cD,aR,dm,ch,cW,ef,eQ,jl,cO,iA,bE,aPj,qC,bK,bJ,dF,aO8,nz,aa,ne_eq,ae,not_false_eq_true,aPg,aO9,bI,aPb,cQ,hl,g0,eF T ha,zY,Zw C (show a.length+1<100000000000 by omega),eE];refine Ia (fun k ts H=>∃i out c,k=a.length-i/\i<=a.length/\ts.length=57/\gt ts 0=v/\gt ts 1=w/\gt ts 20=v/\gt ts 21=.int .i64 (a.length:Nat)/\gt ts 22=.int .i64 (i:Nat)/\gt ts 5=.aI 0 0 (a.length+1) 1 (a.length+1)/\gt ts 6=.int .u64 (c:Nat)/\
  H=[.cells .live (cM out)]/\out.length=a.length+1/\(∀d∈out,d<4294967296)/\c<=1/\val (out.take i)+4294967296^i*c=val (a.take i)+val (b.take i)) (a.length) ?_ ?_
 rotate_left
 ·refine⟨0,aK3 (a.length+1) 0,0,by omega,by omega,by simp[hl],?_⟩;simp only[bJ,dF,aO8,hl,aa,ne_eq,ae,not_false_eq_true,g0,g1];refine⟨trivial,trivial,trivial,trivial,rfl,trivial,rfl,?_,by simp,?_,by omega,by simp[val]⟩
  ·simp
  ·intro d hd;have:=(aPE.1 hd).2;omega
 clear hl g0 g1 ts;rintro k ts H ⟨i,out,c,rfl,hi,hl,g0,g1,g20,g21,g22,g5,g6,rfl,ho,hd,hc,hv⟩;have hz:=ua C;have fZ:∀(j z:Nat),j<out.length->mK 1 [.int .u32 (z:Int)] [.cells .live (cM out)] 0 j=some (.cells .live (cM (out.set j z))):=by intro j z hj;rw[mH,xg hj,pH,if_pos];simp[df];omega
 have yP:=fun z=>fZ i z (by omega)
 by_cases uv:i<a.length
 ·have sk:decide ((i:Int)<(a.length:Int))=true:=b8 (by omega);have HG:=k8 T ha (k:=.i64) (z:=(i:Int)) (by omega) (by omega);have CP:=NV C (b:=0) (n:=a.length+1) (k:=.i64) (z:=(i:Int)) (by omega) (by omega);rw[aPh]at HG CP;have CG:=fun H=>rX T (l:=a) (H:=H) uv
  generalize hx:a.getD i 0=x at CG;have tt:x<4294967296:=by rw[<-hx];rw[aPn,aL5 uv];exact ha.1 _ (aMn uv)
  have w1:aX .u64 (x:Int)=x:=wrap_u64 (by omega);have w2:aX .u64 ((c:Int)+(x:Int))=((c+x:Nat):Int):=by rw[<-aPD];exact wrap_u64 (by omega)
  have w5:aX .i64 ((i:Int)+1)=((i+1:Nat):Int):=by rw[wrap_i64 (by omega) (by omega)];simp
  by_cases SC:i<b.length
  ·have DK:decide ((i:Int)<(b.length:Int))=true:=b8 (by omega);have L8:=k8 T hb (k:=.i64) (z:=(i:Int)) (by omega) (by omega);rw[aPh]at L8;have OE:=fun H=>rX T (l:=b) (H:=H) SC
   generalize hy:b.getD i 0=y at OE;have adH:y<4294967296:=by rw[<-hy,aPn,aL5 SC];exact hb.1 _ (aMn SC)
   have w3:aX .u64 (y:Int)=y:=wrap_u64 (by omega);have w4:aX .u64 (((c+x:Nat):Int)+(y:Int))=((c+x+y:Nat):Int):=by rw[<-aPD];exact wrap_u64 (by omega)
   simp only[↓reduceIte,gJ,lY,gS,fF,gI,dB,fB,lO,gN,hZ,eG,gx,dE,iL,gE,iG,v7,eT,cD,aR,dm,dT,ch,cW,ef,eQ,jl,cO,aU,qC,bK,bJ,dF,aO8,nz,iU,aa,ne_eq,ae,not_false_eq_true,aMm,aO9,aLM,bI,aPf,aPb,cQ,ga,aLT,jz,jD,yP,hl,g0,g1,g20,g21,g22,g5,g6,eF T hb,sk,HG,CG,fw hz.1 hz.2.1,fw hz.2.1 hz.1,iT,w1,w2,DK,L8,OE,w3,w4,w5,wrap_u32,lR,CP,lD (vg C),AV.cells];refine⟨a.length-(i+1),by omega,i+1,out.set i ((c+x+y)%4294967296),(c+x+y)/4294967296,rfl,by omega,trivial,trivial,trivial,trivial,trivial,rfl,trivial,rfl,rfl,by simpa using ho,?_,by omega,?_⟩
   ·exact dL hd (by omega)
   ·rw[fU (by omega),cJ uv,cJ SC,hx,hy];have e:4294967296^(i+1)*((c+x+y)/4294967296)=4294967296^i*(4294967296*((c+x+y)/4294967296)):=by rw[aPA,aPv]
    have e2:4294967296^i*((c+x+y)%4294967296)+4294967296^i*(4294967296*((c+x+y)/4294967296))=4294967296^i*c+4294967296^i*x+4294967296^i*y:=by rw[<-aPe,aPH,aPe,aPe]
    omega
  ·have DK:decide ((i:Int)<(b.length:Int))=false:=cg (by omega);simp only[↓reduceIte,gJ,lY,gS,fF,gI,dB,fB,lO,gN,hZ,eG,gx,dE,iL,gE,iG,v7,eT,cD,aR,dm,dT,ch,cW,ef,eQ,jl,cO,aU,qC,bK,bJ,dF,aO8,nz,iU,aa,ne_eq,ae,not_false_eq_true,aMm,aO9,aLM,bI,aPf,aPb,cQ,ga,aLT,jz,jD,yP,hl,g0,g1,g20,g21,g22,g5,g6,eF T hb,sk,HG,CG,fw hz.1 hz.2.1,fw hz.2.1 hz.1,iT,w1,w2,DK,w5,wrap_u32,lR,CP,lD (vg C),AV.cells,aKT];refine⟨a.length-(i+1),by omega,i+1,out.set i ((c+x)%4294967296),(c+x)/4294967296,rfl,by omega,trivial,trivial,trivial,trivial,trivial,rfl,trivial,rfl,rfl,by simpa using ho,?_,by omega,?_⟩
   ·exact dL hd (by omega)
   ·have eb:∀j,b.length<=j->b.take j=b:=fun j hj=>aPc hj
    rw[fU (by omega),cJ uv,eb (i+1) (by omega),hx];rw[eb i (by omega)]at hv;have e:4294967296^(i+1)*((c+x)/4294967296)=4294967296^i*(4294967296*((c+x)/4294967296)):=by rw[aPA,aPv]
    have e2:4294967296^i*((c+x)%4294967296)+4294967296^i*(4294967296*((c+x)/4294967296))=4294967296^i*c+4294967296^i*x:=by rw[<-aPe,aPH,aPe]
    omega
 ·have sk:decide ((i:Int)<(a.length:Int))=false:=cg (by omega);obtain rfl:i=a.length:=by omega
  have CP:=NV C (b:=0) (n:=a.length+1) (k:=.i64) (z:=(a.length:Int)) (by omega) (by omega);rw[aPh]at CP;have aal:=fun z=>fZ a.length z (by omega)
  have gg:∀z:Nat,ow false [.cells .live (cM (out.set a.length z))] [.aI 0 0 (a.length+1) 1 (a.length+1)]=some ([.aK (cM (out.set a.length z)) (a.length+1)],[0]):=by
   intro z
   have:=xc (H:=[.cells .live (cM (out.set a.length z))]) (b:=0) (l:=out.set a.length z) (st:=.live) rfl (by decide)
   rw[aO8,ho]at this;exact this
  simp only[↓reduceIte,gJ,lY,gS,fF,gI,dB,fB,lO,gN,hZ,eG,lk,gx,dE,iL,gE,iG,v7,eT,cD,aR,dm,dT,ch,dQ,cW,ef,eQ,jl,cO,aU,qC,bK,bJ,dF,aO8,nz,iU,aa,ne_eq,ae,not_false_eq_true,aMm,aO9,aLM,bI,aPf,aPb,cQ,ga,aLT,jz,jD,aal,hl,g0,g1,g20,g21,g22,g5,g6,eF T ha,sk,fw hz.1 hz.2.1,fw hz.2.1 hz.1,iT,wrap_u32,CP,lD (vg C),AV.cells,aKT,gg];have n8:(out.set a.length (c%4294967296)).length=a.length+1:=by simpa using ho
  have:=hG (out.set a.length (c%4294967296)) ⟨dL hd (by omega),.inl rfl⟩ ?_ n8
  ·rw[n8]at this;exact this
  ·have h1:(out.set a.length (c%4294967296)).take (a.length+1)=out.set a.length (c%4294967296):=aPc (by omega);rw[<-h1,fU (by omega)];rw[aPc (aKR _),aPc hle]at hv;rw[aPz (by omega)];exact hv
theorem Us{E:Env}(C:Ctx E){v w:AV}{a b:List Nat}(ha:fN v a)(hb:fN w b)(la:a.length<10000000001)(lb:b.length<10000000001):
  ∃r,aP E 181 [v,w]=some r/\∃l,fN r l/\val l=val a+val b/\l.length=max a.length b.length+1:=by
 refine fn2 (C.ov 181 _ (by decide)) (by rw[C.fn];exact acR) rfl (by decide) ?_;intro ts hl g0 g1;have T:=jb C.toOver;show W E DF ts [] _
 rw[Wx];simp only[gS];unfold DF;by_cases h:a.length<b.length
 ·have hd:decide ((a.length:Int)<(b.length:Int))=true:=b8 (by omega);simp only[Tryz.f181,aeB,TY,↓reduceIte,gJ,gS,gI,dB,fB,eG,gx,dE,iG,eT,cD,aR,dm,ch,cW,tZ,eQ,jl,cO,qC,bK,bJ,dF,aO8,iU,aa,ne_eq,ae,not_false_eq_true,aO9,bI,aPf,hl,g0,g1,eF T ha,eF T hb,hd];refine I8 C hb ha lb (by omega) ?_ ?_ ?_ ?_
  ·intro l h1 h2 h3;exact⟨l,h1,by omega,by omega⟩
  all_goals simp[bJ,dF,hl]
 ·have hd:decide ((a.length:Int)<(b.length:Int))=false:=cg (by omega);simp only[Tryz.f181,aeB,TY,↓reduceIte,gJ,gS,gI,dB,fB,eG,gx,dE,iG,eT,cD,aR,dm,ch,cW,tZ,eQ,jl,cO,qC,bK,bJ,dF,aO8,iU,aa,ne_eq,ae,not_false_eq_true,aO9,bI,aPf,hl,g0,g1,eF T ha,eF T hb,hd,aKT];refine I8 C ha hb la (by omega) ?_ ?_ ?_ ?_
  ·intro l h1 h2 h3;exact⟨l,h1,by omega,by omega⟩
  all_goals simp[dF,hl,g0,g1]
noncomputable def PK:Code:=(match Tryz.f182.body with|some c=>c|none=>.skip)
theorem Wp:E0.fn 182=some {code:=PK,ntmps:=44,results:=[.tmp 4],pure:=true,fL:=false}:=by kernel_rfl
theorem xQ{z:Int}:aX .u32 z=z%4294967296:=by
 show IntKind.u32.wrap _=_
 rw[IntKind.wrap_u32]
theorem GF{E:Env}(C:Ctx E){v w:AV}{a b:List Nat}(ha:fN v a)(hb:fN w b)(la:a.length<10000000001)(hle:b.length<=a.length)(hvl:val b<=val a):
  ∃r,aP E 182 [v,w]=some r/\∃l,fN r l/\val l=val a-val b/\l.length=a.length:=by
 refine fn2 (C.ov 182 _ (by decide)) (by rw[C.fn];exact Wp) rfl (by decide) ?_;intro ts hl g0 g1;have T:=jb C.toOver;show W E PK ts [] _
 unfold PK;simp only[Tryz.f182,↓reduceIte,qk,gS,fF,dB,wb,fB,lu,jy,uM,xu,gx,dE,pS,eT,cD,aR,dm,ch,cW,ef,tZ,eQ,jl,cO,iA,bE,aPj,qC,bK,bJ,dF,aO8,aa,ne_eq,ae,not_false_eq_true,aPg,aMm,aO9,aLM,cQ,hl,g0,eF T ha,Zw C (show a.length<100000000000 by omega),eE];refine Ia (fun k ts H=>∃i out c,k=a.length-i/\i<=a.length/\ts.length=44/\gt ts 1=w/\gt ts 13=v/\gt ts 14=.int .i64 (a.length:Nat)/\gt ts 15=.int .i64 (i:Nat)/\gt ts 5=.aI 0 0 a.length 1 a.length/\gt ts 6=.int .i64 (c:Nat)/\
  H=[.cells .live (cM out)]/\out.length=a.length/\(∀d∈out,d<4294967296)/\c<=1/\val (out.take i)+val (b.take i)=val (a.take i)+4294967296^i*c) (a.length) ?_ ?_
 rotate_left
 ·refine⟨0,aK3 a.length 0,0,by omega,by omega,by simp[hl],?_⟩;simp only[bJ,dF,aO8,hl,aa,ne_eq,ae,not_false_eq_true,g1];refine⟨trivial,trivial,trivial,rfl,trivial,rfl,?_,by simp,?_,by omega,by simp[val]⟩
  ·simp
  ·intro d hd;have:=(aPE.1 hd).2;omega
 clear hl g0 g1 ts;rintro k ts H ⟨i,out,c,rfl,hi,hl,g1,g13,g14,g15,g5,g6,rfl,ho,hd,hc,hv⟩;have hz:=ua C;have fZ:∀(j z:Nat),j<out.length->mK 1 [.int .u32 (z:Int)] [.cells .live (cM out)] 0 j=some (.cells .live (cM (out.set j z))):=by intro j z hj;rw[mH,xg hj,pH,if_pos];simp[df];omega
 by_cases uv:i<a.length
 ·have yP:=fun z=>fZ i z (by omega)
  have sk:decide ((i:Int)<(a.length:Int))=true:=b8 (by omega);have HG:=k8 T ha (k:=.i64) (z:=(i:Int)) (by omega) (by omega);have CP:=NV C (b:=0) (n:=a.length) (k:=.i64) (z:=(i:Int)) (by omega) (by omega);rw[aPh]at HG CP;have CG:=fun H=>rX T (l:=a) (H:=H) uv
  generalize hx:a.getD i 0=x at CG;have tt:x<4294967296:=by rw[<-hx];rw[aPn,aL5 uv];exact ha.1 _ (aMn uv)
  have w1:aX .i64 (x:Int)=x:=wrap_i64 (by omega) (by omega);have w2:aX .i64 ((x:Int)-(c:Int))=(x:Int)-(c:Int):=wrap_i64 (by omega) (by omega);have w5:aX .i64 ((i:Int)+1)=((i+1:Nat):Int):=by rw[wrap_i64 (by omega) (by omega)];simp
  by_cases SC:i<b.length
  ·have DK:decide ((i:Int)<(b.length:Int))=true:=b8 (by omega);have L8:=k8 T hb (k:=.i64) (z:=(i:Int)) (by omega) (by omega);rw[aPh]at L8;have OE:=fun H=>rX T (l:=b) (H:=H) SC
   generalize hy:b.getD i 0=y at OE;have adH:y<4294967296:=by rw[<-hy,aPn,aL5 SC];exact hb.1 _ (aMn SC)
   have w3:aX .i64 (y:Int)=y:=wrap_i64 (by omega) (by omega);have w4:aX .i64 ((x:Int)-(c:Int)-(y:Int))=(x:Int)-(c:Int)-(y:Int):=wrap_i64 (by omega) (by omega);by_cases tq:(x:Int)-(c:Int)-(y:Int)<0
   ·have hn:decide ((x:Int)-(c:Int)-(y:Int)<0)=true:=b8 (by omega);have w6:aX .u32 ((x:Int)-(c:Int)-(y:Int))=((x+4294967296-c-y:Nat):Int):=by rw[xQ];omega
    simp(maxSteps:=1000000)only[↓reduceIte,gJ,lY,gS,fF,gI,dB,fB,lO,gN,hZ,eG,gx,dE,iL,gE,iG,v7,eT,cD,aR,dm,dT,ch,cW,ef,eQ,jl,cO,aU,qC,bK,bJ,dF,aO8,nz,oF,iU,aa,ne_eq,ae,not_false_eq_true,aMm,aO9,aLM,bI,aPf,aPb,cQ,ga,aLT,jz,jD,yP,hl,g1,g13,g14,g15,g5,g6,eF T hb,sk,HG,CG,fw hz.1 hz.2.2.1,fw hz.2.2.1 hz.1,iT,w1,w2,DK,L8,OE,w3,w4,w5,w6,hn,CP,lD (vg C),AV.cells]
    refine⟨a.length-(i+1),by omega,i+1,out.set i (x+4294967296-c-y),1,rfl,by omega,trivial,trivial,trivial,trivial,rfl,trivial,rfl,rfl,by simpa using ho,?_,by omega,?_⟩
    ·exact dL hd (by omega)
    ·rw[fU (by omega),cJ uv,hx,cJ SC,hy];have e:4294967296^(i+1)*1=4294967296^i*(4294967296*1):=by rw[aPA,aPv]
     have e2:4294967296^i*(x+4294967296-c-y)+4294967296^i*y+4294967296^i*c=4294967296^i*x+4294967296^i*(4294967296*1):=by rw[<-aPe,<-aPe,<-aPe];congr 1;omega
     omega
   ·have hn:decide ((x:Int)-(c:Int)-(y:Int)<0)=false:=cg (by omega);have w6:aX .u32 ((x:Int)-(c:Int)-(y:Int))=((x-c-y:Nat):Int):=by rw[xQ];omega
    simp(maxSteps:=1000000)only[↓reduceIte,gJ,lY,gS,fF,gI,dB,fB,lO,gN,hZ,eG,gx,dE,iL,gE,iG,v7,eT,cD,aR,dm,dT,ch,cW,ef,eQ,jl,cO,aU,qC,bK,bJ,dF,aO8,nz,oF,iU,aa,ne_eq,ae,not_false_eq_true,aMm,aO9,aLM,bI,aPf,aPb,cQ,ga,aLT,jz,jD,yP,hl,g1,g13,g14,g15,g5,g6,eF T hb,sk,HG,CG,fw hz.1 hz.2.2.1,fw hz.2.2.1 hz.1,iT,w1,w2,DK,L8,OE,w3,w4,w5,w6,hn,CP,lD (vg C),AV.cells,aKT]
    refine⟨a.length-(i+1),by omega,i+1,out.set i (x-c-y),0,rfl,by omega,trivial,trivial,trivial,trivial,rfl,trivial,rfl,rfl,by simpa using ho,?_,by omega,?_⟩
    ·exact dL hd (by omega)
    ·rw[fU (by omega),cJ uv,hx,cJ SC,hy];have e:4294967296^(i+1)*0=4294967296^i*(4294967296*0):=by rw[aPA,aPv]
     have e2:4294967296^i*(x-c-y)+4294967296^i*y+4294967296^i*c=4294967296^i*x+4294967296^i*(4294967296*0):=by rw[<-aPe,<-aPe,<-aPe];congr 1;omega
     omega
  ·have DK:decide ((i:Int)<(b.length:Int))=false:=cg (by omega);by_cases tq:(x:Int)-(c:Int)<0
   ·have hn:decide ((x:Int)-(c:Int)<0)=true:=b8 (by omega);have w6:aX .u32 ((x:Int)-(c:Int))=((x+4294967296-c:Nat):Int):=by rw[xQ];omega
    simp(maxSteps:=1000000)only[↓reduceIte,gJ,lY,gS,fF,gI,dB,fB,lO,gN,hZ,eG,gx,dE,iL,gE,iG,v7,eT,cD,aR,dm,dT,ch,cW,ef,eQ,jl,cO,aU,qC,bK,bJ,dF,aO8,nz,oF,iU,aa,ne_eq,ae,not_false_eq_true,aMm,aO9,aLM,bI,aPf,aPb,cQ,ga,aLT,jz,jD,yP,hl,g1,g13,g14,g15,g5,g6,eF T hb,sk,HG,CG,fw hz.1 hz.2.2.1,fw hz.2.2.1 hz.1,iT,w1,w2,DK,w5,w6,hn,CP,lD (vg C),AV.cells,aKT]
    refine⟨a.length-(i+1),by omega,i+1,out.set i (x+4294967296-c),1,rfl,by omega,trivial,trivial,trivial,trivial,rfl,trivial,rfl,rfl,by simpa using ho,?_,by omega,?_⟩
    ·exact dL hd (by omega)
    ·rw[fU (by omega),cJ uv,hx];rw[aPc (show b.length<=i+1 by omega)];rw[aPc (show b.length<=i by omega)]at hv;have e:4294967296^(i+1)*1=4294967296^i*(4294967296*1):=by rw[aPA,aPv]
     have e2:4294967296^i*(x+4294967296-c)+4294967296^i*0+4294967296^i*c=4294967296^i*x+4294967296^i*(4294967296*1):=by rw[<-aPe,<-aPe,<-aPe];congr 1;omega
     rw[aPL]at e2;omega
   ·have hn:decide ((x:Int)-(c:Int)<0)=false:=cg (by omega);have w6:aX .u32 ((x:Int)-(c:Int))=((x-c:Nat):Int):=by rw[xQ];omega
    simp(maxSteps:=1000000)only[↓reduceIte,gJ,lY,gS,fF,gI,dB,fB,lO,gN,hZ,eG,gx,dE,iL,gE,iG,v7,eT,cD,aR,dm,dT,ch,cW,ef,eQ,jl,cO,aU,qC,bK,bJ,dF,aO8,nz,oF,iU,aa,ne_eq,ae,not_false_eq_true,aMm,aO9,aLM,bI,aPf,aPb,cQ,ga,aLT,jz,jD,yP,hl,g1,g13,g14,g15,g5,g6,eF T hb,sk,HG,CG,fw hz.1 hz.2.2.1,fw hz.2.2.1 hz.1,iT,w1,w2,DK,w5,w6,hn,CP,lD (vg C),AV.cells,aKT]
    refine⟨a.length-(i+1),by omega,i+1,out.set i (x-c),0,rfl,by omega,trivial,trivial,trivial,trivial,rfl,trivial,rfl,rfl,by simpa using ho,?_,by omega,?_⟩
    ·exact dL hd (by omega)
    ·rw[fU (by omega),cJ uv,hx];rw[aPc (show b.length<=i+1 by omega)];rw[aPc (show b.length<=i by omega)]at hv;have e:4294967296^(i+1)*0=4294967296^i*(4294967296*0):=by rw[aPA,aPv]
     have e2:4294967296^i*(x-c)+4294967296^i*0+4294967296^i*c=4294967296^i*x+4294967296^i*(4294967296*0):=by rw[<-aPe,<-aPe,<-aPe];congr 1;omega
     rw[aPL]at e2;omega
 ·have sk:decide ((i:Int)<(a.length:Int))=false:=cg (by omega);obtain rfl:i=a.length:=by omega
  have gg:ow false [.cells .live (cM out)] [.aI 0 0 a.length 1 a.length]=some ([.aK (cM out) a.length],[0]):=by
   have:=xc (H:=[.cells .live (cM out)]) (b:=0) (l:=out) (st:=.live) rfl (by decide)
   rw[ho]at this;exact this
  simp only[↓reduceIte,gJ,lY,gS,fF,gI,dB,fB,lO,hZ,eG,lk,gx,dE,iL,iG,v7,eT,cD,aR,ch,dQ,cW,ef,eQ,jl,cO,aU,bK,bJ,dF,aO8,iU,aa,ne_eq,ae,not_false_eq_true,bI,aPf,aPb,jz,jD,hl,g13,g14,g15,g5,sk,aKT,gg];refine⟨out,⟨hd,.inl (by rw[ho])⟩,?_,ho⟩;rw[aPc (Nat.le_of_eq ho),aPc hle,aPc (aKR _)]at hv;have h1:=oQ hd;rw[ho]at h1
  have:c=0:=by
   rcases Nat.eq_zero_or_pos c with h|h
   ·exact h
   ·have:c=1:=by omega
    subst this;omega
  subst this;omega
noncomputable def aiA:Code:=(match Tryz.f145.body with|some c=>c|none=>.skip)
theorem agi:E0.fn 145=some {code:=aiA,ntmps:=42,results:=[.cell 4 60],pure:=true,fL:=false}:=by kernel_rfl
theorem qZ{v:AV}{z:Int}(h:fm v z):∃x y,v=.agg [x,y]/\df x=true/\df y=true/\aU x=true/\aU y=true:=by obtain⟨neg,m,l,rfl,hm,_⟩:=h;exact⟨_,_,rfl,rfl,(aY hm).2,rfl,aM hm⟩
theorem Nt{E:Env}(C:Ctx E){v w:AV}{x y:Int}(h:fm v x)(k:fm w y)(fx:Fit x)(fy:Fit y):∃r,aP E 145 [v,w]=some r/\fm r (x+y):=by
 obtain⟨na,m,a,rfl,hm,hn,tq,rfl⟩:=h;obtain⟨nb,m',b,rfl,kM,yU,Lz,rfl⟩:=k;have la:=xE hn oO fx;have lb:=xE yU oO fy;refine fn2 (C.ov 145 _ (by decide)) (by rw[C.fn];exact agi) rfl (by decide) ?_;intro ts hl g0 g1;have T:=jb C.toOver;show W E aiA ts [] _
 unfold aiA;by_cases hs:na=nb
 ·subst hs;have hd:(na==na)=true:=by simp
  obtain⟨rp,hp,lp,By,vp,lnp⟩:=Us C hm kM la lb;obtain⟨r,hr,xx⟩:=ko C By (by omega) na;have nw:=eh hr;have nW:fm r ((if na=true then-(val a:Int)else val a)+(if na=true then-(val b:Int)else val b)):=by
   rw[vp]at xx;cases na
   ·simpa using xx
   ·simp only[if_true]at xx⊢;rw[show-(val a:Int)+ -(val b:Int)= -((val a+val b:Nat):Int)by omega];exact xx
  obtain⟨u,t,rfl,o1,o2,p1,p2⟩:=qZ xx;simp only[Tryz.f145,↓reduceIte,gJ,qk,gS,fF,gI,dB,Ci,fB,Ge,gN,vV,eG,lu,lk,jy,mf,xu,dE,oX,DU,iL,gE,iG,FE,rQ,cD,aR,dT,ch,dQ,nP,cW,ef,oH,eQ,jl,cO,iA,qj,bE,aU,aPj,aPs,aPt,wZ,bK,bJ,dF,aO8,aPa,aPd,beq_self_eq_true,aa,ah,ne_eq,ae,not_false_eq_true,gR,aPg,aPr,aMm,aO9,aLM,bI,aPf,aPb,fq,kP,mW,qw,mH,qb,cQ,lP,ga,gb,aLT,aN1,aPy,aPl,aPu,aPm,aPp,aPw,aPq,aKR,decide_true,aPx,hl,g0,g1,tf C,sW C,js (Hm C),js (zt C),qc (E3 C),lD (G0 C),se C,aM hm,aM kM,aM By,hJ (IF C),hp,nw,o1,o2,p1,p2];exact⟨⟨rfl,by rw[C.pairs];rfl⟩,nW⟩
 ·have hd:(na==nb)=false:=by simpa using hs
  have ord:=eh (uw C hm kM hn yU (by omega) (by omega));by_cases hv:val b<=val a
  ·have Hx:decide (pO (val a) (val b)≥0)=true:=b8 (by unfold pO;split<;>(try split)<;>omega);have hlen:b.length<=a.length:=by
    by_cases q:a.length<b.length
    ·have:=yg hm.1 yU q
     omega
    ·omega
   obtain⟨rp,hp,lp,By,vp,lnp⟩:=GF C hm kM la hlen (by omega);obtain⟨r,hr,xx⟩:=ko C By (by omega) na;have nw:=eh hr;have nW:fm r ((if na=true then-(val a:Int)else val a)+(if nb=true then-(val b:Int)else val b)):=by
    rw[vp]at xx;have e:(if na=true then-((val a-val b:Nat):Int)else((val a-val b:Nat):Int))=((if na=true then-(val a:Int)else val a)+(if nb=true then-(val b:Int)else val b)):=by
     cases na<;>cases nb<;>first|(exact absurd rfl hs)|(simp;omega)
    rw[<-e];exact xx
   obtain⟨u,t,rfl,o1,o2,p1,p2⟩:=qZ xx;simp only[Tryz.f145,↓reduceIte,gJ,qk,gS,fF,gI,dB,Ci,fB,Ge,gN,vV,eG,lu,lk,jy,mf,xu,dE,oX,DU,iL,gE,iG,FE,rQ,cD,aR,dT,ch,dQ,nP,cW,ef,oH,eQ,jl,cO,iA,qj,bE,aU,aPj,aPs,aPt,wZ,bK,bJ,dF,aO8,aPa,aPd,beq_self_eq_true,CH,aa,ah,ne_eq,ae,not_false_eq_true,gR,aPg,aPr,aMm,aO9,aLM,bI,aPf,aPb,fq,kP,mW,qw,mH,qb,cQ,lP,ga,gb,aLT,aN1,aPy,aPl,aPu,aPm,aPp,aPw,aPq,aKR,decide_true,aPx,hl,g0,g1,tf C,sW C,js (Hm C),js (zt C),qc (E3 C),lD (G0 C),se C,aM hm,aM kM,aM By,hJ (IF C),hd,hp,nw,o1,o2,p1,p2,ord,Hx,aKT];exact⟨⟨rfl,by rw[C.pairs];rfl⟩,nW⟩
  ·have Hx:decide (pO (val a) (val b)≥0)=false:=cg (by unfold pO;split<;>(try split)<;>omega);have hlen:a.length<=b.length:=by
    by_cases q:b.length<a.length
    ·have:=yg kM.1 hn q
     omega
    ·omega
   obtain⟨rp,hp,lp,By,vp,lnp⟩:=GF C kM hm lb hlen (by omega);obtain⟨r,hr,xx⟩:=ko C By (by omega) nb;have nw:=eh hr;have nW:fm r ((if na=true then-(val a:Int)else val a)+(if nb=true then-(val b:Int)else val b)):=by
    rw[vp]at xx;have e:(if nb=true then-((val b-val a:Nat):Int)else((val b-val a:Nat):Int))=((if na=true then-(val a:Int)else val a)+(if nb=true then-(val b:Int)else val b)):=by
     cases na<;>cases nb<;>first|(exact absurd rfl hs)|(simp;omega)
    rw[<-e];exact xx
   obtain⟨u,t,rfl,o1,o2,p1,p2⟩:=qZ xx;simp only[Tryz.f145,↓reduceIte,gJ,qk,gS,fF,gI,dB,Ci,fB,Ge,gN,vV,eG,lu,lk,jy,mf,xu,dE,oX,DU,iL,gE,iG,FE,rQ,cD,aR,dT,ch,dQ,nP,cW,ef,oH,eQ,jl,cO,iA,qj,bE,aU,aPj,aPs,aPt,wZ,bK,bJ,dF,aO8,aPa,aPd,beq_self_eq_true,CH,aa,ah,ne_eq,ae,not_false_eq_true,gR,aPg,aPr,aMm,aO9,aLM,bI,aPf,aPb,fq,kP,mW,qw,mH,qb,cQ,lP,ga,gb,aLT,aN1,aPy,aPl,aPu,aPm,aPp,aPw,aPq,aKR,decide_true,aPx,hl,g0,g1,tf C,sW C,js (Hm C),js (zt C),qc (E3 C),lD (G0 C),se C,aM hm,aM kM,aM By,hJ (IF C),hd,hp,nw,o1,o2,p1,p2,ord,Hx,aKT];exact⟨⟨rfl,by rw[C.pairs];rfl⟩,nW⟩
theorem SY{z:Int}(h:Fit z):Fit (-z):=by obtain⟨n,h1,h2⟩:=h;exact⟨n,h1,by rwa[Int.natAbs_neg]⟩
theorem qx{E:Env}{ops rest:List Oper}{ts:List AV}{H:Hp}{q:List AV->Hp->Prop}{d:Option Nat}{t:Nat}{p:String}{af:Array Edge}{t1 len:Nat}{ps:Array (Nat×Operand)}:
  fA E ops (⟨d,.buildSlice t1 len ps,t,p,af,none⟩::rest) ts H q=BW (xT ts ps.toList) fun vs=>tg (aT E H.length t1 len vs) fun r=>fA E ops rest (bK d r.1 ts) ((cE.bU r.2).app H) q:=by
 rw[qm rfl (by intro c h;cases h)];simp only[eL,aT];cases xT ts ps.toList with
 |none=>
  cases E.ty t1 with
  |none=>rfl
  |some i=>
   obtain⟨cV,isAgg,size,bytes,zero,eS⟩:=i;cases cV<;>try rfl
   rename_i e;simp only;cases E.ty e with
   |none=>rfl
   |some ei=>simp only;cases ei.zero<;>rfl
 |some vs=>
  simp only[iF];cases E.ty t1 with
  |none=>rfl
  |some i=>
   obtain⟨cV,isAgg,size,bytes,zero,eS⟩:=i;cases cV<;>try rfl
   rename_i e;simp only;cases E.ty e with
   |none=>rfl
   |some ei=>
    simp only;cases ei.zero with
    |none=>rfl
    |some z=>
     simp only
     split
     ·cases gV (fun i=>some (i*ei.size,ei.size)) (iE z len) vs<;>rfl
     ·rfl
theorem ac5{E:Env}(C:Ctx E){aL:Nat}{x y:Int}:aT E aL 58 2 [(0,.int .u32 x),(1,.int .u32 y)]=some (.aI aL 0 2 1 2,[(aL,.cells .live [.int .u32 x,.int .u32 y])]):=by have T:=jb C.toOver;obtain⟨i,e1,e2,e3⟩:=T.t66;obtain⟨j,f1,f2,f3,f4,f5,f6⟩:=T.t126;obtain⟨cV,isAgg,size,bytes,zero,eS⟩:=i;simp only at e2;subst e2;simp[aT,e1,f1,f5,f4,iE,gV,AV.cells]
noncomputable def WS:Code:=(match Tryz.f49.body with|some c=>c|none=>.skip)
theorem adt:E0.fn 49=some {code:=WS,ntmps:=19,results:=[.cell 2 60],pure:=true,fL:=false}:=by kernel_rfl
theorem rG{b:Nat}{H:Hp}:(cE.marks [b]).app H=H.modify b cz.nL:=rfl
theorem mN{b:Nat}{x:cz}:eE [] b x=[x]:=rfl
theorem Cr{z:Int}:aX .u64 z=z%18446744073709551616:=by
 show IntKind.u64.wrap z=_
 unfold IntKind.wrap;simp[IntKind.signed,IntKind.bits]
theorem JT{k:IntKind}{n:Int}:unE .neg (.int k n)=some (.int k (aX k (0-n))):=rfl
theorem xM{E:Env}(C:Ctx E){n:Int}(h0: -9223372036854775808<=n)(h1:n<9223372036854775808):∃r,aP E 49 [.int .i64 n]=some r/\fm r n:=by
 obtain⟨k,hk⟩:∃k:Nat,k=n.natAbs:=⟨_,rfl⟩;have hm:fN (.aK (cM [k%4294967296,k/4294967296%4294967296]) 2) [k%4294967296,k/4294967296%4294967296]:=⟨by intro d hd;simp at hd;omega,.inl rfl⟩;have hv:val [k%4294967296,k/4294967296%4294967296]=k:=by simp only[val];omega
 obtain⟨r,hr,xx⟩:=ko C hm (by simp) (decide (n<0));have nw:=eh hr;rw[hv]at xx;have nW:fm r n:=by
  have e:(if decide (n<0)=true then-(k:Int)else(k:Int))=n:=by
   by_cases q:n<0
   ·rw[b8 q];simp only[if_true];omega
   ·rw[cg q];simp only[aKT,if_false];omega
  rwa[e]at xx
 obtain⟨u,t,rfl,o1,o2,p1,p2⟩:=qZ xx;refine fn1 (C.ov 49 _ (by decide)) (by rw[C.fn];exact adt) rfl (by decide) ?_;intro ts hl g0;have T:=jb C.toOver;have hz:=ua C;show W E WS ts [] _
 unfold WS;have w2:aX .u32 (k:Int)=((k%4294967296:Nat):Int):=wrap_u32;have w3:aX .u32 ((k/4294967296:Nat):Int)=((k/4294967296%4294967296:Nat):Int):=wrap_u32;have gg:∀b:Bool,ow false [.cells .live [.bool false,.aH],.cells .live [.int .u32 ((k%4294967296:Nat):Int),.int .u32 ((k/4294967296%4294967296:Nat):Int)]] [.bool b,.aI 1 0 2 1 2]=some ([.bool b,.aK (cM [k%4294967296,k/4294967296%4294967296]) 2],[1]):=by intro b;rfl
 by_cases q:n<0
 ·have hd:decide (n<0)=true:=b8 q;have w0:aX .u64 n=n+18446744073709551616:=by rw[Cr];omega
  have w1:aX .u64 (0-(n+18446744073709551616))=(k:Int):=by rw[Cr];omega
  rw[hd]at nw;cases Av:bR (.agg [u,t])
  ·simp only[Tryz.f49,↓reduceIte,gJ,qk,gS,gI,dB,fB,eG,lu,lk,jy,mf,xu,gx,dE,oX,gE,iG,T2,rQ,cD,aR,dm,dT,ch,iF,dQ,nP,cW,ef,oH,eQ,jl,Fs,Gd,cO,nu,iA,qj,bE,aU,aPj,aPs,aPt,bK,bJ,dF,aO8,beq_self_eq_true,iU,aa,ah,ne_eq,ae,not_false_eq_true,gR,aPg,aMm,aO9,aLM,bI,aPb,mW,mH,cQ,lP,ga,gb,aLT,aN1,aPy,aPl,aPu,aPm,aPp,aPw,aPq,aKR,decide_true,aPx,hl,g0,qc (E3 C),lD (G0 C),se C,fw hz.2.2.2 hz.2.1,fw hz.2.1 hz.1,iT,w0,hd,JT,w1,w2,w3,qx,ac5 C,lR,gg,nw,Av,o1,o2,p1,p2,aKT,rG,aPF,aPG,mN];exact nW
  ·simp only[Tryz.f49,↓reduceIte,gJ,qk,gS,gI,dB,fB,eG,lu,lk,jy,mf,xu,gx,dE,oX,gE,iG,T2,rQ,cD,aR,dm,dT,ch,iF,dQ,nP,cW,ef,oH,eQ,jl,Fs,Gd,cO,nu,iA,qj,bE,aU,aPj,aPs,aPt,ye,bK,bJ,dF,aO8,beq_self_eq_true,iU,aa,ah,ne_eq,ae,not_false_eq_true,gR,aPg,aMm,aO9,aLM,bI,aPb,mW,mH,cQ,lP,ga,gb,aLT,aN1,aPy,aPl,aPu,aPm,aPp,aPw,aPq,aKR,decide_true,aPx,hl,g0,qc (E3 C),lD (G0 C),se C,fw hz.2.2.2 hz.2.1,fw hz.2.1 hz.1,iT,w0,hd,JT,w1,w2,w3,qx,ac5 C,lR,gg,nw,Av,o1,o2,p1,p2,mN];exact nW
 ·have hd:decide (n<0)=false:=cg q;have w0:aX .u64 n=(k:Int):=by rw[Cr];omega
  rw[hd]at nw;cases Av:bR (.agg [u,t])
  ·simp only[Tryz.f49,↓reduceIte,gJ,qk,gS,gI,dB,fB,eG,lu,lk,jy,mf,xu,gx,dE,oX,gE,iG,T2,rQ,cD,aR,dm,dT,ch,iF,dQ,nP,cW,ef,oH,eQ,jl,Fs,Gd,cO,nu,iA,qj,bE,aU,aPj,aPs,aPt,bK,bJ,dF,aO8,beq_self_eq_true,iU,aa,ah,ne_eq,ae,not_false_eq_true,gR,aPg,aMm,aO9,aLM,bI,aPb,mW,mH,cQ,lP,ga,gb,aLT,aN1,aPy,aPl,aPu,aPm,aPp,aPw,aPq,aKR,decide_true,aPx,hl,g0,qc (E3 C),lD (G0 C),se C,fw hz.2.2.2 hz.2.1,fw hz.2.1 hz.1,iT,w0,hd,w2,w3,qx,ac5 C,lR,gg,nw,Av,o1,o2,p1,p2,aKT,rG,aPF,aPG,mN];exact nW
  ·simp only[Tryz.f49,↓reduceIte,gJ,qk,gS,gI,dB,fB,eG,lu,lk,jy,mf,xu,gx,dE,oX,gE,iG,T2,rQ,cD,aR,dm,dT,ch,iF,dQ,nP,cW,ef,oH,eQ,jl,Fs,Gd,cO,nu,iA,qj,bE,aU,aPj,aPs,aPt,ye,bK,bJ,dF,aO8,beq_self_eq_true,iU,aa,ah,ne_eq,ae,not_false_eq_true,gR,aPg,aMm,aO9,aLM,bI,aPb,mW,mH,cQ,lP,ga,gb,aLT,aN1,aPy,aPl,aPu,aPm,aPp,aPw,aPq,aKR,decide_true,aPx,hl,g0,qc (E3 C),lD (G0 C),se C,fw hz.2.2.2 hz.2.1,fw hz.2.1 hz.1,iT,w0,hd,w2,w3,qx,ac5 C,lR,gg,nw,Av,o1,o2,p1,p2,aKT,mN];exact nW
theorem Se{l:List Nat}{j d:Nat}(h:j<l.length):val (l.set j d)+4294967296^j*l.getD j 0=val l+4294967296^j*d:=by
 rw[ub (l:=l.set j d) (i:=j) (by simpa using h),ub (l:=l) (i:=j) h];have e1:(l.set j d).take j=l.take j:=aPR (aKR _);have e2:(l.set j d).drop (j+1)=l.drop (j+1):=aPS (by omega);have e3:(l.set j d).getD j 0=d:=by rw[aPn,aNl h];rfl
 rw[e1,e2,e3,aPe,aPe];omega
noncomputable def mulC:Code:=(match Tryz.f106.body with|some c=>c|none=>.skip)
theorem ajI:E0.fn 106=some {code:=mulC,ntmps:=77,results:=[.cell 4 60],pure:=true,fL:=false}:=by kernel_rfl
def Df(na:Bool)(m:AV)(nb:Bool)(m':AV)(out:List Nat):Hp:=[.cells .live [.bool na,m],.cells .live [.bool nb,m'],.cells .live [.bool false,.aH],.cells .live (cM out)]
theorem adI{H:Hp}{u v:AV}{w:AV}{bs:List Nat}(hu:aU u=true)(h1:fz H 40 u=some (u,[]))(hv:aU v=false)(h:bW H [v]=some ([w],bs)):ow false H [u,v]=some ([u,w],bs):=by
 rw[nQ];unfold bW at h⊢;rw[show bE [v]=false by simp[bE,hv]]at h;rw[show bE [u,v]=false by simp[bE,hu,hv]];simp only[aKT,if_false,dP]at h⊢;rw[h1];cases hf:fz H 40 v with
 |none=>rw[hf]at h;cases h
 |some y=>
  rw[hf]at h;simp only[List.map_cons,List.map_nil,aMk,List.flatMap_nil,aPq,aKV.injEq,Prod.mk.injEq,List.cons.injEq,and_true]at h;simp[h.1,h.2]
theorem lT{E:Env}(C:Ctx E){v w:AV}{x y:Int}(h:fm v x)(k:fm w y)(fx:Fit x)(fy:Fit y):∃r,aP E 106 [v,w]=some r/\fm r (x*y):=by
 obtain⟨na,m,a,rfl,hm,hn,tq,rfl⟩:=h;obtain⟨nb,m',b,rfl,kM,yU,Lz,rfl⟩:=k;have la:=xE hn oO fx;have lb:=xE yU oO fy;refine fn2 (C.ov 106 _ (by decide)) (by rw[C.fn];exact ajI) rfl (by decide) ?_;intro ts hl g0 g1;have T:=jb C.toOver;show W E mulC ts [] _
 unfold mulC;have w1:aX .i64 ((a.length:Int)+(b.length:Int))=((a.length+b.length:Nat):Int):=by rw[wrap_i64 (by omega) (by omega)];simp
 simp only[Tryz.f106,qk,gS,fF,dB,wb,fB,lu,jy,mf,gx,dE,oX,DU,iL,gE,iG,FE,pS,eT,rQ,cD,aR,dm,ch,nP,cW,ef,oH,eQ,jl,cO,iA,bE,aPj,qC,bK,bJ,dF,aO8,aPa,aPd,nz,aa,ah,ne_eq,ae,not_false_eq_true,gR,aPg,aPr,aMm,aO9,aLM,bI,aPf,fq,kP,cQ,lP,hl,g0,g1,sW C,js (zt C),se C,eF T hm,eF T kM,w1,Zw C (show a.length+b.length<100000000000 by omega),mN];refine Ia (fun k ts H=>∃i out,k=a.length-i/\i<=a.length/\ts.length=77/\gt ts 2=.b9 0 0/\gt ts 3=.b9 1 0/\gt ts 4=.b9 2 0/\gt ts 20=m/\gt ts 21=.int .i64 (a.length:Nat)/\gt ts 22=.int .i64 (i:Nat)/\gt ts 5=.aI 3 0 (a.length+b.length) 1 (a.length+b.length)/\
  H=Df na m nb m' out/\out.length=a.length+b.length/\(∀d∈out,d<4294967296)/\val out=val (a.take i)*val b/\(∀j,i+b.length<=j->out.getD j 0=0)) (a.length) ?_ ?_
 rotate_left
 ·refine⟨0,aK3 (a.length+b.length) 0,by omega,by omega,by simp[hl],?_⟩;simp only[bJ,dF,aO8,hl,aa,ne_eq,ae,not_false_eq_true];refine⟨trivial,trivial,trivial,trivial,trivial,rfl,trivial,rfl,by simp,?_,by simp[val,Im],?_⟩
  ·intro d hd;have:=(aPE.1 hd).2;omega
  ·intro j hj;rw[aPn,List.getElem?_replicate]
   split<;>rfl
 clear hl g0 g1 ts;rintro k ts H ⟨i,out,rfl,hi,hl,g2,g3,g4,g20,g21,g22,g5,rfl,ho,hd,hv,hzero⟩;have hz:=ua C;by_cases uv:i<a.length
 ·have sk:decide ((i:Int)<(a.length:Int))=true:=b8 (by omega);have HG:=k8 T hm (k:=.i64) (z:=(i:Int)) (by omega) (by omega);rw[aPh]at HG;have CG:=fun H=>rX T (l:=a) (H:=H) uv
  generalize hx:a.getD i 0=x at CG;have tt:x<4294967296:=by rw[<-hx,aPn,aL5 uv];exact hm.1 _ (aMn uv)
  unfold Df;simp only[↓reduceIte,gJ,lY,gS,fF,gI,dB,wb,fB,lO,hZ,eG,gx,dE,iL,iG,FE,v7,eT,cD,aR,dm,ch,cW,ef,eQ,jl,cO,aU,qC,bK,bJ,dF,aO8,aPa,aPd,iU,aa,ah,ne_eq,ae,not_false_eq_true,aMm,aO9,aLM,bI,aPf,aPb,fq,kP,jz,jD,hl,g2,g3,g4,g20,g21,g22,g5,tf C,sW C,js (Hm C),js (zt C),eF T kM,sk,HG,CG];refine Ia (fun q ts H=>∃k zF c,q=b.length-k/\k<=b.length/\ts.length=77/\gt ts 2=.b9 0 0/\gt ts 3=.b9 1 0/\gt ts 4=.b9 2 0/\gt ts 20=m/\gt ts 21=.int .i64 (a.length:Nat)/\gt ts 22=.int .i64 (i:Nat)/\gt ts 5=.aI 3 0 (a.length+b.length) 1 (a.length+b.length)/\
   gt ts 6=.int .i64 (i:Nat)/\gt ts 7=.int .u32 (x:Nat)/\gt ts 8=.int .u64 (c:Nat)/\gt ts 28=m'/\gt ts 29=.int .i64 (b.length:Nat)/\gt ts 30=.int .i64 (k:Nat)/\
   H=Df na m nb m' zF/\zF.length=a.length+b.length/\(∀d∈zF,d<4294967296)/\c<4294967296/\val zF+4294967296^(i+k)*c=val out+4294967296^i*(x*val (b.take k))/\(∀j,i+b.length<=j->zF.getD j 0=0)) (b.length) ?_ ?_
  rotate_left
  ·refine⟨0,out,0,by omega,by omega,by simp[hl],?_⟩;simp only[bJ,dF,aO8,hl,aa,ne_eq,ae,not_false_eq_true,g2,g3,g4,g20,g21,g22,g5];refine⟨trivial,trivial,trivial,trivial,trivial,trivial,trivial,trivial,trivial,rfl,trivial,trivial,rfl,rfl,ho,hd,by first|trivial|omega,by simp[val],hzero⟩
  clear hl g2 g3 g4 g20 g21 g22 g5 ts;rintro q ts H ⟨k,zF,c,rfl,hk,hl,g2,g3,g4,g20,g21,g22,g5,g6,g7,g8,Kf,JY,K9,rfl,ho',hd',hc,hv',OY⟩;have fZ:∀(j z:Nat),j<zF.length->mK 1 [.int .u32 (z:Int)] [.cells .live (cM zF)] 0 j=some (.cells .live (cM (zF.set j z))):=by intro j z hj;rw[mH,xg hj,pH,if_pos];simp[df];omega
  have hxx:aX .u64 (x:Int)=x:=wrap_u64 (by omega);by_cases hkb:k<b.length
  ·have DK:decide ((k:Int)<(b.length:Int))=true:=b8 (by omega);have L8:=k8 T kM (k:=.i64) (z:=(k:Int)) (by omega) (by omega);rw[aPh]at L8;have OE:=fun H=>rX T (l:=b) (H:=H) hkb
   generalize hy:b.getD k 0=y at OE;have adH:y<4294967296:=by rw[<-hy,aPn,aL5 hkb];exact kM.1 _ (aMn hkb)
   have yP:=fun z=>fZ (i+k) z (by omega)
   have CP:=NV C (b:=3) (n:=a.length+b.length) (k:=.i64) (z:=((i+k:Nat):Int)) (by omega) (by omega);rw[aPh]at CP;have kO:i+k<zF.length:=by omega
   generalize ht:zF.getD (i+k) 0=t;have aFY:t<4294967296:=by rw[<-ht,aPn,aL5 kO];exact hd' _ (aMn kO)
   have jw:(cM zF)[i+k]?=some (.int .u32 (t:Int)):=by rw[<-ht];simp[cM,aPn,kO]
   have hxy:x*y<=4294967295*4294967295:=Nat.mul_le_mul (by omega) (by omega);have w0:aX .i64 ((i:Int)+(k:Int))=((i+k:Nat):Int):=by rw[wrap_i64 (by omega) (by omega)];simp
   have w1':aX .u64 (y:Int)=y:=wrap_u64 (by omega);have w2:aX .u64 ((x:Int)*(y:Int))=((x*y:Nat):Int):=by rw[<-aPN];exact wrap_u64 (by omega)
   have w3:aX .u64 (t:Int)=t:=wrap_u64 (by omega);have w4:aX .u64 (((x*y:Nat):Int)+(t:Int))=((x*y+t:Nat):Int):=by rw[<-aPD];exact wrap_u64 (by omega)
   have w5:aX .u64 ((c:Int)+((x*y+t:Nat):Int))=((c+(x*y+t):Nat):Int):=by rw[<-aPD];exact wrap_u64 (by omega)
   have w6:aX .i64 ((k:Int)+1)=((k+1:Nat):Int):=by rw[wrap_i64 (by omega) (by omega)];simp
   unfold Df
   simp(maxSteps:=1000000)only[↓reduceIte,gJ,lY,gS,fF,gI,dB,fB,lO,gN,hZ,eG,gx,dE,iL,gE,iG,v7,cD,aR,dT,cW,ef,bK,bJ,dF,aO8,nz,Pq,iU,aa,ah,ne_eq,ae,not_false_eq_true,aMm,aO9,aLM,bI,aPf,aPb,fq,kP,qb,cQ,lP,ga,aLT,jz,jD,yP,jw,hl,g2,g3,g4,g20,g21,g22,g5,g6,g7,g8,Kf,JY,K9,js (akw C),DK,L8,OE,CP,fw hz.1 hz.2.1,fw hz.2.1 hz.1,iT,hxx,w0,w1',w2,w3,w4,w5,w6,wrap_u32,lR,lD (vg C),AV.cells]
   refine⟨b.length-(k+1),by omega,k+1,zF.set (i+k) ((c+(x*y+t))%4294967296),(c+(x*y+t))/4294967296,rfl,by omega,trivial,trivial,trivial,trivial,trivial,trivial,trivial,trivial,trivial,trivial,rfl,trivial,trivial,rfl,rfl,by simpa using ho',dL hd' (by omega),by omega,?_,?_⟩
   ·have s1:=Se (d:=(c+(x*y+t))%4294967296) kO;rw[ht]at s1;rw[cJ hkb,hy];have e1:4294967296^(i+(k+1))*((c+(x*y+t))/4294967296)=4294967296^(i+k)*(4294967296*((c+(x*y+t))/4294967296)):=by rw[<-Nat.add_assoc,aPA,aPv]
    have e2:4294967296^(i+k)*((c+(x*y+t))%4294967296)+4294967296^(i+k)*(4294967296*((c+(x*y+t))/4294967296))=4294967296^(i+k)*c+(4294967296^(i+k)*(x*y)+4294967296^(i+k)*t):=by rw[<-aPe,aPH,aPe,aPe]
    have e3:4294967296^i*(x*(val (b.take k)+4294967296^k*y))=4294967296^i*(x*val (b.take k))+4294967296^(i+k)*(x*y):=by
     rw[aPe,aPe,Nat.pow_add];congr 1
     ac_rfl
    omega
   ·intro j hj;rw[aPn,aNh (by omega)];exact OY j hj
  ·have DK:decide ((k:Int)<(b.length:Int))=false:=cg (by omega);obtain rfl:k=b.length:=by omega
   have yP:=fun z=>fZ (i+b.length) z (by omega)
   have CP:=NV C (b:=3) (n:=a.length+b.length) (k:=.i64) (z:=((i+b.length:Nat):Int)) (by omega) (by omega);rw[aPh]at CP;have w0:aX .i64 ((i:Int)+(b.length:Int))=((i+b.length:Nat):Int):=by rw[wrap_i64 (by omega) (by omega)];simp
   have w6:aX .i64 ((i:Int)+1)=((i+1:Nat):Int):=by rw[wrap_i64 (by omega) (by omega)];simp
   have kO:i+b.length<zF.length:=by omega
   unfold Df
   simp(maxSteps:=1000000)only[↓reduceIte,gJ,lY,gS,fF,gI,dB,fB,lO,gN,hZ,eG,gx,dE,iL,gE,iG,v7,cD,aR,dm,dT,cW,ef,qC,bK,bJ,dF,aO8,aPa,aPd,nz,iU,aa,ah,ne_eq,ae,not_false_eq_true,aMm,aO9,aLM,bI,aPf,aPb,fq,kP,qb,cQ,lP,ga,aLT,jz,jD,yP,hl,g2,g3,g4,g20,g21,g22,g5,g6,g7,g8,Kf,JY,K9,DK,CP,sW C,js (zt C),eF T kM,fw hz.1 hz.2.1,fw hz.2.1 hz.1,iT,w0,w6,wrap_u32,lD (vg C),AV.cells,aKT]
   refine⟨a.length-(i+1),by omega,i+1,zF.set (i+b.length) (c%4294967296),rfl,by omega,trivial,trivial,trivial,trivial,trivial,trivial,rfl,trivial,rfl,by simpa using ho',dL hd' (by omega),?_,?_⟩
   ·have s1:=Se (d:=c%4294967296) kO;rw[OY _ (aKR _),aPL,Nat.add_zero,aPz hc]at s1;rw[aPz hc,s1,hv',aPc (aKR _),cJ uv,hx,hv,Nat.add_mul,aPv]
   ·intro j hj;rw[aPn,aNh (by omega)];exact OY j (by omega)
 ·have sk:decide ((i:Int)<(a.length:Int))=false:=cg (by omega);obtain rfl:i=a.length:=by omega
  rw[aPc (aKR _)]at hv;have xJ:fN (.aK (cM out) (a.length+b.length)) out:=⟨hd,.inl (by rw[ho])⟩;obtain⟨r,hr,xx⟩:=ko C xJ (by omega) (na !=nb);have nw:=eh hr;have nW:fm r ((if na=true then-(val a:Int)else val a)*(if nb=true then-(val b:Int)else val b)):=by
   rw[hv]at xx;cases na<;>cases nb<;>simpa[Int.neg_mul,Int.mul_neg,aPN]using xx
  obtain⟨u,t,rfl,o1,o2,p1,p2⟩:=qZ xx;have gg:ow false (Df na m nb m' out) [.bool (na !=nb),.aI 3 0 (a.length+b.length) 1 (a.length+b.length)]=some ([.bool (na !=nb),.aK (cM out) (a.length+b.length)],[3]):=by
   refine adI rfl rfl (by simp[aU]) ?_
   have:=xc (H:=Df na m nb m' out) (b:=3) (l:=out) (st:=.live) rfl (by decide)
   rw[ho]at this;exact this
  unfold Df at gg⊢;cases Av:bR (.agg [u,t])
  ·simp only[↓reduceIte,gJ,lY,gS,fF,gI,dB,wb,fB,lO,hZ,eG,lk,xu,gx,dE,iL,iG,FE,v7,eT,cD,aR,dT,ch,dQ,cW,ef,eQ,jl,cO,qj,bE,aU,aPs,aPt,bK,bJ,dF,aO8,aPa,beq_self_eq_true,iU,aa,ah,ne_eq,ae,not_false_eq_true,gR,aPg,aMm,aO9,aLM,bI,aPf,aPb,fq,kP,mW,qw,qb,cQ,lP,ga,aLT,aN1,aPy,aPl,aPu,aPm,aPp,aPw,aPq,aKR,decide_true,aPx,jz,jD,mH,gb,hl,g2,g3,g4,g20,g21,g22,g5,sk,tf C,js (Hm C),gM (IF C),gg,nw,Av,o1,o2,p1,p2,qc (E3 C),lD (G0 C),rG,aPF,aPG,aKT];exact nW
  ·simp only[↓reduceIte,gJ,lY,gS,fF,gI,dB,wb,fB,lO,hZ,eG,lk,xu,gx,dE,iL,iG,FE,v7,eT,cD,aR,dT,ch,dQ,cW,ef,eQ,jl,cO,qj,bE,aU,aPs,aPt,ye,bK,bJ,dF,aO8,aPa,beq_self_eq_true,iU,aa,ah,ne_eq,ae,not_false_eq_true,gR,aPg,aMm,aO9,aLM,bI,aPf,aPb,fq,kP,mW,qw,qb,cQ,lP,ga,aLT,aN1,aPy,aPl,aPu,aPm,aPp,aPw,aPq,aKR,decide_true,aPx,jz,jD,mH,gb,hl,g2,g3,g4,g20,g21,g22,g5,sk,tf C,js (Hm C),gM (IF C),gg,nw,Av,o1,o2,p1,p2,qc (E3 C),lD (G0 C),aKT];exact nW
theorem sY{out:List Nat}{H:Hp}{j z:Nat}(hj:j<out.length):mK 1 [.int .u32 (z:Int)] (.cells .live (cM out)::H) 0 j=some (.cells .live (cM (out.set j z))):=by rw[mH,xg hj,pH,if_pos];simp[df];omega
theorem EA{n:Nat}:∀d∈aK3 n 0,d<4294967296:=by intro d hd;have:=(aPE.1 hd).2;omega
theorem gY{l:List Nat}(h:∀d∈l,d<4294967296){i:Nat}:l.getD i 0<4294967296:=by
 rw[aPn];cases hq:l[i]? with
 |none=>simp
 |some x=>exact h x (List.mem_of_getElem? hq)
noncomputable def OU:Code:=(match Tryz.f160.body with|some c=>c|none=>.skip)
theorem Zm:E0.fn 160=some {code:=OU,ntmps:=47,results:=[.tmp 6],pure:=true,fL:=false}:=by kernel_rfl
theorem Pg{E:Env}(C:Ctx E){v:AV}{a:List Nat}(ha:fN v a)(la:a.length<10000000001){m p:Nat}(hm:m<4294967296)(hp:p<4294967296):
  ∃r,aP E 160 [v,.int .u32 (m:Int),.int .u32 (p:Int)]=some r/\∃l,fN r l/\Norm l/\val l=val a*m+p/\l.length<=a.length+1:=by
 refine fn3 (C.ov 160 _ (by decide)) (by rw[C.fn];exact Zm) rfl (by decide) ?_;intro ts hl g0 g1 g2;have T:=jb C.toOver;have hz:=ua C;show W E OU ts [] _
 unfold OU;have w1:aX .i64 ((a.length:Int)+1)=((a.length+1:Nat):Int):=by rw[wrap_i64 (by omega) (by omega)];simp
 have w2:aX .u64 (p:Int)=p:=wrap_u64 (by omega);have wm:aX .u64 (m:Int)=m:=wrap_u64 (by omega);simp only[Tryz.f160,qk,gS,fF,dB,wb,fB,lu,jy,uM,xu,gx,dE,iG,pS,eT,rQ,cD,aR,dm,ch,nP,cW,ef,oH,tZ,eQ,jl,cO,iA,bE,aPj,qC,bK,bJ,dF,aO8,nz,aa,ne_eq,ae,not_false_eq_true,aMm,aO9,aLM,bI,aPb,cQ,hl,g0,g2,eF T ha,w1,w2,fw hz.1 hz.2.1,iT,Zw C (show a.length+1<100000000000 by omega),mN];refine Ia (fun k_ ts H=>∃i out c,k_=a.length-i/\ts.length=47/\gt ts 0=v/\gt ts 1=.int .u32 (m:Int)/\gt ts 7=.aI 0 0 (a.length+1) 1 (a.length+1)/\gt ts 8=.int .u64 (c:Nat)/\gt ts 17=v/\gt ts 18=.int .i64 (a.length:Nat)/\gt ts 19=.int .i64 (i:Nat)/\H=[.cells .live (cM out)]/\(i<=a.length)/\(out.length=a.length+1)/\(∀d∈out,d<4294967296)/\(c<4294967296)/\(val (out.take i)+4294967296^i*c=val (a.take i)*m+p)) (a.length) ?_ ?_
 rotate_left
 ·refine⟨0,aK3 (a.length+1) 0,p,(by first|omega|rfl|(simp;done)),(by simp only[aO8,hl]),?_⟩;simp only[cR,hl,aa,ae,g0,g1]
  iterate 8 refine⟨by first|trivial|rfl|(congr 1;omega)|(simp;done)|(simp;omega),?_⟩
  refine⟨?_,?_,?_,?_,?_⟩
  ·omega
  ·simp
  ·exact EA
  ·omega
  ·simp[val]
 clear hl g0 g1 g2 ts;rintro k_ ts H ⟨i,out,c,rfl,hl,g0,g1,g7,g8,g17,g18,g19,rfl,hi,ho,hd,hc,hv⟩;by_cases uv:i<a.length
 ·have sk:decide ((i:Int)<(a.length:Int))=true:=b8 (by omega);have HG:=k8 T ha (k:=.i64) (z:=(i:Int)) (by omega) (by omega);rw[aPh]at HG;have CG:=fun H=>rX T (l:=a) (H:=H) uv
  have tt:=gY ha.1 (i:=i);generalize hx:a.getD i 0=x at CG tt;have hxy:x*m<=4294967295*4294967295:=Nat.mul_le_mul (by omega) (by omega);have wx:aX .u64 (x:Int)=x:=wrap_u64 (by omega);have w3:aX .u64 ((x:Int)*(m:Int))=((x*m:Nat):Int):=by rw[<-aPN];exact wrap_u64 (by omega)
  have w4:aX .u64 ((c:Int)+((x*m:Nat):Int))=((c+x*m:Nat):Int):=by rw[<-aPD];exact wrap_u64 (by omega)
  have w5:aX .i64 ((i:Int)+1)=((i+1:Nat):Int):=by rw[wrap_i64 (by omega) (by omega)];simp
  have CP:=NV C (b:=0) (n:=a.length+1) (k:=.i64) (z:=(i:Int)) (by omega) (by omega);rw[aPh]at CP;have kO:i<out.length:=by omega
  have fZ:=fun z H=>sY (H:=H) (z:=z) kO
  simp only[↓reduceIte,gJ,lY,gS,fF,gI,dB,fB,lO,gN,hZ,eG,gx,dE,iL,gE,iG,v7,cD,aR,dT,cW,ef,aU,bK,bJ,dF,aO8,nz,Pq,iU,aa,ne_eq,ae,not_false_eq_true,aMm,aO9,aLM,bI,aPf,aPb,cQ,ga,aLT,jz,jD,hl,g0,g1,g7,g8,g17,g18,g19,sk,HG,CG,CP,fZ,fw hz.1 hz.2.1,fw hz.2.1 hz.1,iT,wx,wm,w3,w4,w5,wrap_u32,lR,lD (vg C),AV.cells];refine⟨_,(by first|omega|(simp;omega)),i+1,out.set i ((c+x*m)%4294967296),(c+x*m)/4294967296,rfl,(by first|trivial|rfl|assumption|(congr 1;omega)|(simp;done)|(simp;omega)),(by first|trivial|rfl|assumption|(congr 1;omega)|(simp;done)|(simp;omega)),(by first|trivial|rfl|assumption|(congr 1;omega)|(simp;done)|(simp;omega)),(by first|trivial|rfl|assumption|(congr 1;omega)|(simp;done)|(simp;omega)),(by first|trivial|rfl|assumption|(congr 1;omega)|(simp;done)|(simp;omega)),(by first|trivial|rfl|assumption|(congr 1;omega)|(simp;done)|(simp;omega)),(by first|trivial|rfl|assumption|(congr 1;omega)|(simp;done)|(simp;omega)),(by first|trivial|rfl|assumption|(congr 1;omega)|(simp;done)|(simp;omega)),(by first|trivial|rfl|assumption|(congr 1;omega)|(simp;done)|(simp;omega)),?_,?_,?_,?_,?_⟩
  ·omega
  ·simpa using ho
  ·exact dL hd (by omega)
  ·omega
  ·rw[fU kO,cJ uv,hx];have e1:4294967296^(i+1)*((c+x*m)/4294967296)=4294967296^i*(4294967296*((c+x*m)/4294967296)):=by rw[aPA,aPv]
   have e2:4294967296^i*((c+x*m)%4294967296)+4294967296^i*(4294967296*((c+x*m)/4294967296))=4294967296^i*c+4294967296^i*(x*m):=by rw[<-aPe,aPH,aPe]
   have e3:(val (a.take i)+4294967296^i*x)*m=val (a.take i)*m+4294967296^i*(x*m):=by rw[Nat.add_mul,aPv]
   omega
 ·have sk:decide ((i:Int)<(a.length:Int))=false:=cg (by omega);obtain rfl:i=a.length:=by omega
  have CP:=NV C (b:=0) (n:=a.length+1) (k:=.i64) (z:=(a.length:Int)) (by omega) (by omega);rw[aPh]at CP;have kO:a.length<out.length:=by omega
  have fZ:=fun z H=>sY (H:=H) (z:=z) kO
  have hd':∀d∈out.set a.length (c%4294967296),d<4294967296:=dL hd (by omega);have xJ:fN (.aK (cM (out.set a.length (c%4294967296))) (a.length+1)) (out.set a.length (c%4294967296)):=⟨hd',.inl (by rw[aO8,ho])⟩;obtain⟨r,hr,JZ⟩:=kX C xJ (by rw[aO8];omega);have nw:=eh hr;have gg:ow false [.cells .live (cM (out.set a.length (c%4294967296)))] [.aI 0 0 (a.length+1) 1 (a.length+1)]=some ([.aK (cM (out.set a.length (c%4294967296))) (a.length+1)],[0]):=by
   rw[nQ]
   have:=xc (H:=[.cells .live (cM (out.set a.length (c%4294967296)))]) (b:=0) (l:=out.set a.length (c%4294967296)) (st:=.live) rfl (by decide)
   rwa[aO8,ho]at this
  simp only[↓reduceIte,gJ,lY,gS,fF,gI,dB,fB,lO,gN,hZ,eG,lk,gx,dE,iL,gE,iG,v7,cD,aR,dm,dT,dQ,cW,ef,qj,aU,qC,bK,bJ,dF,aO8,nz,iU,aa,ne_eq,ae,not_false_eq_true,aMm,aO9,aLM,bI,aPf,aPb,cQ,ga,aLT,jz,jD,hl,g0,g1,g7,g8,g17,g18,g19,sk,CP,fZ,fw hz.1 hz.2.1,fw hz.2.1 hz.1,iT,wrap_u32,eF T ha,lD (vg C),AV.cells,gg,nw,aM JZ,aKT];refine⟨_,JZ,kG _,?_,?_⟩
  ·rw[jN];have h1:=fU (l:=out) (d:=c%4294967296) kO;rw[aPc (by rw[aO8];omega)]at h1;rw[h1,aPz hc,hv,aPc (aKR _)]
  ·obtain⟨n,hn⟩:=sB (out.set a.length (c%4294967296))
   have:=congrArg List.length hn
   rw[aO8,aMf]at this;omega
section
variable{E:Env}{c:Bool}{t:Nat}
theorem Sj{k:IntKind}{a b:Nat}(h:b≠0):dC E c .quo t (.int k (a:Int)) (.int k (b:Int))=some (.int k (aX k ((a/b:Nat):Int))):=by rw[aiv (by omega)];rfl
theorem qH{k:IntKind}{a b:Nat}(h:b≠0):dC E c .rem t (.int k (a:Int)) (.int k (b:Int))=some (.int k ((a%b:Nat):Int)):=by rw[ajt (by omega)];rfl
theorem xU{n a:Nat}(h:a<2^n):(BitVec.ofInt n (a:Int)).toNat=a:=by rw[BitVec.ofInt_natCast,BitVec.toNat_ofNat,aPz h]
theorem KI{a b:Nat}(ha:a<18446744073709551616)(hb:b<18446744073709551616):dC E c .or t (.int .u64 (a:Int)) (.int .u64 (b:Int))=some (.int .u64 ((a|||b:Nat):Int)):=by
 have h:a|||b<2^64:=aPU (by omega) (by omega)
 simp only[dC,vF,ne_eq,not_true_eq_false,if_false];rw[show IntKind.u64.bits=64 from rfl,BitVec.toNat_or,xU (by omega),xU (by omega),wrap_u64 (by omega)]
theorem SQ{a b:Nat}(ha:a<4294967296)(hb:b<4294967296):dC E c .or t (.int .u32 (a:Int)) (.int .u32 (b:Int))=some (.int .u32 ((a|||b:Nat):Int)):=by
 have h:a|||b<2^32:=aPU (by omega) (by omega)
 simp only[dC,vF,ne_eq,not_true_eq_false,if_false];rw[show IntKind.u32.bits=32 from rfl,BitVec.toNat_or,xU (by omega),xU (by omega),wrap_u32,aPz (by omega)]
theorem JP{k k':IntKind}{a n:Nat}(h:n<=k.bits):dC E c .shl t (.int k (a:Int)) (.int k' (n:Int))=some (.int k (aX k ((a*2^n:Nat):Int))):=by
 simp only[dC];rw[if_neg (by omega),aPh,aPM h]
 simp
theorem Sx{k k':IntKind}{a n:Nat}(h:n<=k.bits):dC E c .shr t (.int k (a:Int)) (.int k' (n:Int))=some (.int k ((a/2^n:Nat):Int)):=by
 simp only[dC];rw[if_neg (by omega),aPh,aPM h,aPK _ (by exact Int.le_of_lt (Int.pow_pos (by decide)))]
 simp
theorem wV{a:Nat}{k':IntKind}(h:a<4294967296):dC E c .shl t (.int .u64 (a:Int)) (.int k' 32)=some (.int .u64 ((a*4294967296:Nat):Int)):=by
 have:=JP (E:=E) (c:=c) (t:=t) (k:=.u64) (k':=k') (a:=a) (n:=32) (by decide)
 rw[show(2:Nat)^32=4294967296 from rfl,wrap_u64 (by omega)]at this;exact this
theorem Pk{r d:Nat}(h:d<4294967296):(r*4294967296)|||d=r*4294967296+d:=by
 have:=Nat.shiftLeft_add_eq_or_of_lt (i:=32) (b:=d) (by omega) r
 rw[Nat.shiftLeft_eq]at this;exact this.symm
end
noncomputable def Qy:Code:=(match Tryz.f90.body with|some c=>c|none=>.skip)
theorem Zv:E0.fn 90=some {code:=Qy,ntmps:=43,results:=[.tmp 4,.tmp 5],pure:=true,fL:=false}:=by kernel_rfl
theorem zi{l:List Nat}{k:Nat}(h0:0<k)(h:k<=l.length):val (l.drop (k-1))=l.getD (k-1) 0+4294967296*val (l.drop k):=by
 have hk:k-1<l.length:=by omega
 rw[aPB hk,show k-1+1=k by omega];simp[val,aPn,hk]
theorem zo{l:List Nat}{k d:Nat}(h0:0<k)(h:k<=l.length):val ((l.set (k-1) d).drop (k-1))=d+4294967296*val (l.drop k):=by rw[zi h0 (by simpa using h),aPS (by omega),aPn,aNl (by omega)];rfl
theorem F1{E:Env}(C:Ctx E){v:AV}{a:List Nat}(ha:fN v a)(la:a.length<10000000001){m:Nat}(h0:m≠0)(hm:m<4294967296):
  ∃r,aP E 90 [v,.int .u32 (m:Int)]=some (.tuple [r,.int .u32 ((val a%m:Nat):Int)])/\∃l,fN r l/\Norm l/\val l=val a/m:=by
 suffices hh:∃u,aP E 90 [v,.int .u32 (m:Int)]=some u/\∃r,u=.tuple [r,.int .u32 ((val a%m:Nat):Int)]/\∃l,fN r l/\Norm l/\val l=val a/m by
  obtain⟨u,h1,r,rfl,h2⟩:=hh;exact⟨r,h1,h2⟩
 refine fn2 (C.ov 90 _ (by decide)) (by rw[C.fn];exact Zv) rfl (by decide) ?_;intro ts hl g0 g1;have T:=jb C.toOver;have hz:=ua C;show W E Qy ts [] _
 unfold Qy;have w1:aX .i64 ((a.length:Int)-1)=(a.length:Int)-1:=by rw[wrap_i64 (by omega) (by omega)]
 have wm:aX .u64 (m:Int)=m:=wrap_u64 (by omega);simp only[Tryz.f90,qk,gS,fF,dB,wb,fB,lu,jy,uM,asP,gx,dE,iG,pS,eT,rQ,cD,aR,dm,ch,nP,cW,ef,oH,tZ,eQ,jl,cO,iA,bE,aU,aPj,qC,bK,bJ,dF,aO8,oF,aa,ne_eq,ae,not_false_eq_true,aMm,aO9,aLM,bI,aPb,cQ,hl,g0,eF T ha,w1,Zw C (show a.length<100000000000 by omega),mN];refine Ia (fun k_ ts H=>∃i out c,k_=0+i/\ts.length=43/\gt ts 0=v/\gt ts 1=.int .u32 (m:Int)/\gt ts 6=.aI 0 0 a.length 1 a.length/\gt ts 7=.int .u64 (c:Nat)/\gt ts 8=.int .i64 ((i:Int)-1)/\H=[.cells .live (cM out)]/\(i<=a.length)/\(out.length=a.length)/\(∀d∈out,d<4294967296)/\(c=val (a.drop i)%m)/\(val (out.drop i)=val (a.drop i)/m)) (a.length) ?_ ?_
 rotate_left
 ·refine⟨a.length,aK3 a.length 0,0,(by first|omega|rfl|(simp;done)),(by simp only[aO8,hl]),?_⟩;simp only[cR,hl,aa,ae,g0,g1]
  iterate 6 refine⟨by first|trivial|rfl|(congr 1;omega)|(simp;done)|(simp;omega),?_⟩
  refine⟨?_,?_,?_,?_,?_⟩
  ·omega
  ·simp
  ·exact EA
  ·simp[val]
  ·simp[val]
 clear hl g0 g1 ts;rintro k_ ts H ⟨i,out,c,rfl,hl,g0,g1,g6,g7,g8,rfl,hi,ho,hd,hc,hv⟩;have hcm:c<m:=by rw[hc];exact Nat.mod_lt _ (by omega)
 by_cases uv:0<i
 ·have sk:decide ((i:Int)-1≥0)=true:=b8 (by omega);have HG:=k8 T ha (k:=.i64) (z:=(i:Int)-1) (by omega) (by omega);rw[show((i:Int)-1).toNat=i-1 by omega]at HG;have CG:=fun H=>rX T (l:=a) (H:=H) (show i-1<a.length by omega)
  have tt:=gY ha.1 (i:=i-1);generalize hx:a.getD (i-1) 0=x at CG tt;have wx:aX .u64 (x:Int)=x:=wrap_u64 (by omega);have hor:(c*4294967296)|||x=c*4294967296+x:=Pk tt
  have hq:(c*4294967296+x)/m<4294967296:=by
   rw[Nat.div_lt_iff_lt_mul (by omega)]
   have:(c+1)*4294967296<=m*4294967296:=aLL _ hcm
   rw[aPT 4294967296 m];omega
  have wq:aX .u64 (((c*4294967296+x)/m:Nat):Int)=((c*4294967296+x)/m:Nat):=wrap_u64 (by omega);have w5:aX .i64 ((i:Int)-1-1)=(i:Int)-1-1:=by rw[wrap_i64 (by omega) (by omega)]
  have CP:=NV C (b:=0) (n:=a.length) (k:=.i64) (z:=(i:Int)-1) (by omega) (by omega);rw[show((i:Int)-1).toNat=i-1 by omega]at CP;have kO:i-1<out.length:=by omega
  have fZ:=fun z H=>sY (H:=H) (z:=z) kO
  simp only[↓reduceIte,gJ,lY,gS,fF,gI,dB,fB,lO,gN,hZ,eG,gx,dE,iL,gE,iG,v7,cD,aR,dT,cW,ef,aU,aPj,bK,bJ,dF,aO8,oF,CH,aa,ne_eq,ae,not_false_eq_true,aLM,bI,aPf,aPb,cQ,ga,aLT,jz,jD,hl,g0,g1,g6,g7,g8,sk,HG,CG,CP,fZ,fw hz.1 hz.2.1,fw hz.2.1 hz.1,iT,wx,wm,wq,w5,wrap_u32,wV (show c<4294967296 by omega),KI (show c*4294967296<18446744073709551616 by omega) (show x<18446744073709551616 by omega),hor,Sj h0,qH h0,lD (vg C),AV.cells];have hdr:=zi uv hi;rw[hx]at hdr;have hdiv:=Nat.div_add_mod (val (a.drop i)) m;rw[<-hc]at hdiv;have key:val (a.drop (i-1))=(c*4294967296+x)+m*(4294967296*(val (a.drop i)/m)):=by
   rw[hdr,<-hdiv,aPe,hdiv]
   have:4294967296*(m*(val (a.drop i)/m))=m*(4294967296*(val (a.drop i)/m)):=by ac_rfl
   omega
  refine⟨_,(by first|omega|(simp;omega)),i-1,out.set (i-1) ((c*4294967296+x)/m%4294967296),(c*4294967296+x)%m,rfl,(by first|trivial|rfl|assumption|(congr 1;omega)|(simp;done)|(simp;omega)),(by first|trivial|rfl|assumption|(congr 1;omega)|(simp;done)|(simp;omega)),(by first|trivial|rfl|assumption|(congr 1;omega)|(simp;done)|(simp;omega)),(by first|trivial|rfl|assumption|(congr 1;omega)|(simp;done)|(simp;omega)),(by first|trivial|rfl|assumption|(congr 1;omega)|(simp;done)|(simp;omega)),(by first|trivial|rfl|assumption|(congr 1;omega)|(simp;done)|(simp;omega)),(by first|trivial|rfl|assumption|(congr 1;omega)|(simp;done)|(simp;omega)),?_,?_,?_,?_,?_⟩
  ·omega
  ·simpa using ho
  ·exact dL hd (by omega)
  ·rw[key,Nat.add_mul_mod_self_left]
  ·rw[zo uv (by omega),hv,key,Nat.add_mul_div_left _ _ (by omega),aPz hq]
 ·have sk:decide ((i:Int)-1≥0)=false:=cg (by omega);obtain rfl:i=0:=by omega
  simp only[aPp]at hc hv;have xJ:fN (.aK (cM out) a.length) out:=⟨hd,.inl (by rw[ho])⟩;obtain⟨r,hr,JZ⟩:=kX C xJ (by omega);have nw:=eh hr;have gg:ow false [.cells .live (cM out)] [.aI 0 0 a.length 1 a.length]=some ([.aK (cM out) a.length],[0]):=by
   rw[nQ]
   have:=xc (H:=[.cells .live (cM out)]) (b:=0) (l:=out) (st:=.live) rfl (by decide)
   rwa[ho]at this
  simp only[↓reduceIte,gJ,lY,gS,fF,gI,dB,fB,lO,gN,hZ,eG,lk,gx,dE,iL,gE,iG,v7,cD,aR,dQ,cW,ef,qj,aU,aPt,bK,bJ,dF,aO8,oF,CH,aa,ne_eq,ae,not_false_eq_true,aLM,bI,aPf,aPb,jz,jD,hl,g0,g1,g6,g7,g8,sk,fw hz.1 hz.2.1,fw hz.2.1 hz.1,iT,wrap_u32,gg,nw,aM JZ,aKT];refine⟨r,?_,_,JZ,kG _,?_⟩
  ·rw[aPz (by omega),hc]
  ·rw[jN,hv]
end Go.Proofs.YtblnjkjjedanaaaGreatDoor
