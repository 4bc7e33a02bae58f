/- Lemmas for AssemblyRefuses; no condition. -/
import Derived.Test.YtmkjgfnicfpjpaaGreatDoorRap
set_option linter.all false
set_option maxHeartbeats 100000000
set_option maxRecDepth 100000
noncomputable section
open List renaming getElem?_eq_getElem->aL6,mem_singleton->aNh,getD_eq_getElem?_getD->aT1,mem_append->aM7,getElem?_append_left->aOr,getElem?_append_right->aT6,drop_zero->aRj,getElem?_map->aM4,take_length->aPo,getElem_mem->aMg,length_append->aL9,drop_eq_getElem_cons->aRx,getElem?_eq_some_iff->aLq,range->aOR,take_of_length_le->aPk,getElem?_set_ne->aOj,map_cons->aM5,take_succ_cons->aRg,flatMap_cons->aNj,append_assoc->aUi,flatMap_nil->aUn
open Nat renaming add_sub_cancel_left->aT2,le_refl->aLt,pow_lt_pow_right->aUd,add_assoc->aLU,le_trans->aNW,lt_of_lt_of_le->aN0,lt_or_eq_of_le->aUh,le_of_lt_succ->aUl,reduceLT->aa,reduceEqDiff->ae,reduceAdd->ah,reduceLeDiff->ai
open Int renaming mul_nonneg->aT3,lt_or_eq_of_le->aT4,mul_lt_mul_of_pos_right->aT5,mul_le_mul_of_nonneg_left->aST,mul_eq_zero->aT7,mul_zero->aT8,le_of_lt->aT9,mul_pos->aUa,mul_lt_mul_of_pos_left->aUb,add_zero->aUc,zero_mul->aUe,lt_or_le->aUf,mul_comm->aUg,mul_sub->aUm,reduceLE->an,reduceLT->aq,reduceToNat->ar,reduceNeg->aB
open Option renaming map_some->aMi,getD_some->aNk
open Bool renaming and_eq_true->aM6
namespace Go.Proofs.YtmkjgfnicfpjpaaGreatDoor
open Go Dv Dv.dk
variable{E:Env}[C:Ctx E]
def au3(f:Nat)(l:List AV)(h:f∉Ja):iC Bo f l=none:=by
 have h':∀x∈Ja,f≠x:=fun x hx e=>h (e▸hx)
 simp only[Ja,List.mem_cons,List.not_mem_nil,or_false,forall_eq_or_imp,forall_eq]at h';obtain⟨a,b,c,d,e,g,i,j,k,m⟩:=h';simp[iC,Bo,a,b,c,d,e,g,i,j,k,m]
def anI(o:Nat->List AV->Option AV):EN o=Env.mk E0.ty E0.fn E0.glob (fun f l=>if f=5∨f=98 then o f l else iC Bo f l) EV E0.pairs:=by kernel_rfl
def wH{E:Env}(C:Ctx E):∃o,E=EN o:=by
 have h1:=C.fn;have h2:=C.ty;have h3:=C.rH;have h4:=C.pairs;have h5:=C.glob;refine⟨E.ov,?_⟩;have h6:E.ov=fun f l=>if f=5∨f=98 then E.ov f l else iC Bo f l:=by
  funext f l;by_cases h0:f=5∨f=98
  ·rw[if_pos h0]
  ·rw[if_neg h0];by_cases h:f∈Ja
   ·exact C.ovX f l h
   ·rw[C.ov f l (fun hm=>(aM7.1 hm).elim (fun hk=>h0 (by simpa[N2]using hk)) h),au3 f l h]
 rw[anI,<-h1,<-h2,<-h3,<-h4,<-h5,<-h6]
def IW{f n:Nat}{l:List AV}{r:AV}(hp:bF E0 f=false)(h:∀o,call (EN o) n f l=some r):aP E f l=some r:=by
 obtain⟨o,rfl⟩:=wH C;have fC:(EN o).fn=E0.fn:=C.fn;refine dB ⟨fun fi lT=>?_,n,h o⟩;rw[fC]at lT;unfold bF at hp;rw[lT]at hp;obtain⟨code,ntmps,results,pu,du⟩:=fi;cases pu
 ·simp at hp
 ·rfl
def Flat(v:AV):Prop:=∀H n,fz H (n+1) v=some (v,[])
def qJ{H:Hp}{m:Nat}:∀{l:List AV},(∀v∈l,Flat v)->e9 (fz H (m+1)) l=some (l.map fun v=>(v,[]))
 |[],_=>rfl
 |x::l,h=>by
  unfold e9;rw[h x (by simp) H m,qJ (l:=l) fun v hv=>h v (by simp[hv])];rfl
def nQ{l:List AV}:(l.map fun v=>(v,([]:List Nat))).flatMap (·.2)=[]:=by
 induction l with
 |nil=>rfl
 |cons x l ih=>simpa using ih
def yF{l:List AV}:(l.map fun v=>(v,([]:List Nat))).map (·.1)=l:=by
 induction l with
 |nil=>rfl
 |cons x l ih=>simpa using ih
def yg{H:Hp}{b m s:Nat}{cs:List AV}{st:qW}(h:H[b]?=some (.cells st cs))(hd:st≠ .dead)(hm:cs.length=m*s)(hf:∀v∈cs,Flat v):sI false H [.aI b 0 m s m]=some ([.aK cs m],[b]):=by
 rw[xF];have h2:List.take (m*s) (List.drop 0 cs)=cs:=by rw[aRj,<-hm,aPo]
 have h3:=W5 (n:=39) (off:=0) (len:=m) (esz:=s) (k:=m) h hd (by omega) (by rw[h2];exact qJ hf);unfold bX;rw[show aV [AV.aI b 0 m s m]=false by simp[aV,aU]];simp only[Bool.false_eq_true,if_false];unfold e9;rw[h3];unfold e9;simp only[yF,nQ,aM5,List.map_nil,aNj,aUn,List.append_nil]
def uy(s low:Nat)(v:AV)(H:Hp)(n:Nat)(cs:List AV):Prop:=(n=0/\cs=[]/\v=.aH)∨(0<n/\∃b,low<=b/\b<H.length/\v=.aI b 0 n s n/\H[b]?=some (.cells .live cs))
def mB{H:Hp}{a b:Nat}{x y:cE}:(cF.bJ [(a,x),(b,y)]).app H=cO (cO H a x) b y:=rfl
def xR{E:Env}{t s wE:Nat}{ag:Bool}{z x cs:List AV}{low n:Nat}{v:AV}{H:Hp}(hS:ew E t=some (ag,s,wE,z))(hs:0<s)(h:uy s low v H n cs)(pN:cs.length=n*s)(hx:x.length=s)(hxo:x.all cN=true)(hr:(n+1)*wE<=fH)(hn:n+1<=4611686018427387904)(Xu:low<=H.length):
  ∃v' bJ,bM E (H++[cE.cells qW.live x]) (H++[cE.cells qW.live x]).length .append [t,t] [v,.aI H.length 0 1 s 1]=some (v',bJ)/\uy s low v' ((cF.bJ bJ).app (H++[cE.cells qW.live x])) (n+1) (cs++x)/\(∀k,k<low->((cF.bJ bJ).app (H++[cE.cells qW.live x]))[k]?=H[k]?)/\low<=((cF.bJ bJ).app (H++[cE.cells qW.live x])).length:=by
 obtain⟨i,e,ei,h1,h2,h3,h4,h5,h6,h7⟩:=kn hS;obtain⟨cD,jA,jS,jB,jZ,dK⟩:=i;simp only at h2;subst h2 h5 h6;have hlen:(H++[cE.cells qW.live x]).length=H.length+1:=by simp
 have ph:sD (H++[cE.cells qW.live x]) ei false (.aI H.length 0 1 ei.size 1)=some (1,x):=by
  have ht:List.take (1*ei.size) x=x:=by rw[Nat.one_mul,<-hx,aPo]
  simp[sD,mU,oM,iI,hx];rw[<-hx];simp
 have hb:bM E (H++[cE.cells qW.live x]) (H++[cE.cells qW.live x]).length .append [t,t] [v,.aI H.length 0 1 ei.size 1]=er E (H++[cE.cells qW.live x]) (H++[cE.cells qW.live x]).length false t v (.aI H.length 0 1 ei.size 1):=by simp[bM,h1]
 rw[hb];unfold er;simp only[h1,h3,ph];rw[if_neg (by omega),if_neg (by rw[hxo,h7];simp;omega)];rcases h with⟨rfl,rfl,rfl⟩|⟨LQ,b,mP,vN,rfl,hb3⟩
 ·simp only;rw[if_pos ⟨by omega,by omega⟩];refine⟨_,_,rfl,?_,?_,?_⟩
  ·right
   refine⟨by omega,_,?_,?_,rfl,?_⟩
   ·rw[hlen];omega
   ·rw[cu,eK];simp
   ·rw[cu,eK,List.nil_append];simp
  ·intro k hk;rw[cu,eK,aUi,aOr (by omega)]
  ·rw[cu,eK];simp;omega
 ·have hgb:(H++[cE.cells qW.live x])[b]?=some (.cells .live cs):=by rw[aOr vN];exact hb3
  simp only[hgb];rw[if_neg (by omega),if_pos ⟨trivial,by omega,by omega,by omega⟩];have hpd:cO (H++[cE.cells qW.live x]) b (.cells .dead [])=(H++[cE.cells qW.live x]).set b (.cells .dead []):=dT (by rw[hlen];omega);have qp:((H++[cE.cells qW.live x]).set b (.cells .dead [])).length=(H++[cE.cells qW.live x]).length:=by simp
  refine⟨_,_,rfl,?_,?_,?_⟩
  ·right
   refine⟨by omega,_,?_,?_,rfl,?_⟩
   ·rw[hlen];omega
   ·rw[mB,hpd,<-qp,eK];simp
   ·rw[mB,hpd,<-qp,eK,aRj,<-pN,aPo];simp
  ·intro k hk;rw[mB,hpd,<-qp,eK,aOr (by simp;omega),aOj (by omega),aOr (by omega)]
  ·rw[mB,hpd,<-qp,eK];simp;omega
def lk{E:Env}{t s wE:Nat}{ag:Bool}{z:List AV}{v:AV}{aR:Nat}(hS:ew E t=some (ag,s,wE,z))(hz:z.length=s)(hs:0<s)(Jq:s<=16777216)(hv:v.cells.length=s):bZ E aR t 1 [(0,v)]=some (.aI aR 0 1 s 1,[(aR,.cells .live v.cells)]):=by
 obtain⟨i,e,ei,h1,h2,h3,h4,h5,h6,h7⟩:=kn hS;obtain⟨cD,jA,jS,jB,jZ,dK⟩:=i;simp only at h2;subst h2 h5;have hr:gJ z 1=z:=by simp[gJ]
 simp only[bZ,h1,h3,h7,hr];rw[if_pos ⟨hz,hs,by omega⟩];simp[fP,hv,hz]
def wg{s c:List UInt8}(hc:c.all (fun b=>decide (b.toNat<128))=true:=by decide)(hl:c.length<1000:=by decide)(hs:s.length<=9223372036854775807:=by omega):aP E 178 [.str s,.str c]=some (.str (Lib.trimS s c)):=by refine rI ?_ at5;rw[C.ovX _ _ (by decide)];rw[show iC Bo 178 [.str s,.str c]=DA [.str s,.str c]by simp[iC,Bo]];unfold DA;simp only;rw[if_pos ⟨hc,by omega,hs⟩]
def Bw{s c:List UInt8}:aP E 177 [.str s,.str c]=some (.str (Lib.trimPrefix s c)):=by refine rI ?_ at1;rw[C.ovX _ _ (by decide)];rw[show iC Bo 177 [.str s,.str c]=nU [.str s,.str c]by simp[iC,Bo]];rfl
def Co{s c:List UInt8}:aP E 225 [.str s,.str c]=some (.tuple [.str (Lib.trimPrefix s c),.bool (Lib.hasPrefix s c)]):=by refine rI ?_ at7;rw[C.ovX _ _ (by decide)];rw[show iC Bo 225 [.str s,.str c]=pT [.str s,.str c]by simp[iC,Bo]];rfl
def DC{s:List UInt8}{u:Nat}(hs:s.length<=9223372036854775806)(h:Lib.parseUintB 32 s=.ok u):aP E 228 [.str s,.int .i64 10,.int .i64 32]=some (.tuple [.int .u64 u,.nilIface]):=by refine rI ?_ aub;rw[C.ovX _ _ (by decide)];rw[show iC Bo 228 [.str s,.int .i64 10,.int .i64 32]=mW [.str s,.int .i64 10,.int .i64 32]by simp[iC,Bo]];unfold mW;simp only;rw[if_pos ⟨trivial,trivial,hs⟩,h]
def Eu{s:List UInt8}(h:s.all (fun b=>decide (48<=b.toNat/\b.toNat<=57))=true)(hs:s.length<=281474976710656):aP E 226 [.str s,.func 227 [] []]=some (.bool false):=by refine rI ?_ aua;rw[C.ovX _ _ (by decide)];rw[show iC Bo 226 [.str s,.func 227 [] []]=oF 227 [.str s,.func 227 [] []]by simp[iC,Bo]];unfold oF;simp only;rw[if_pos ⟨trivial,h,hs⟩]
def rv(cs:List AV):Nat->List AV
 |0=>cs
 |i+1=>((rv cs i).set i ((rv cs i).getD (cs.length-1-i) bT)).set (cs.length-1-i) ((rv cs i).getD i bT)
def af0{T l:Hp}{L j o:Nat}(h:T.length=L):cellAt (T++l) (L+j) o=cellAt l j o:=by subst h;rw[bY,bY,aT6 (by omega),aT2]
def ajd{T l:Hp}{L o:Nat}(h:T.length=L):cellAt (T++l) L o=cellAt l 0 o:=af0 (j:=0) h
def afS{n:Nat}{T l:Hp}{L j o:Nat}(h:T.length=L):fE n (T++l) (L+j) o=fE n l j o:=by subst h;rw[dY,dY,aT6 (by omega),aT2]
def ahR{n:Nat}{T l:Hp}{L o:Nat}(h:T.length=L):fE n (T++l) L o=fE n l 0 o:=afS (j:=0) h
def ahk{n:Nat}{xs:List AV}{T l:Hp}{L j o:Nat}(h:T.length=L):iZ n xs (T++l) (L+j) o=iZ n xs l j o:=by subst h;rw[eT,eT,aT6 (by omega),aT2]
def amd{n:Nat}{xs:List AV}{T l:Hp}{L o:Nat}(h:T.length=L):iZ n xs (T++l) L o=iZ n xs l 0 o:=ahk (j:=0) h
def KN{T l:Hp}{L j:Nat}{x:cE}(h:T.length=L)(hj:j<=l.length:=by simp):cO (T++l) (L+j) x=T++cO l j x:=by
 subst h;unfold cO;rw[aL9];by_cases h:j<l.length
 ·rw[if_pos (by omega),if_pos h]
  have:=List.set_append_right (s:=T) (t:=l) (i:=T.length+j) (x:=x) (by omega)
  rw[aT2]at this;exact this
 ·rw[if_neg (by omega),if_neg h,aUi]
section
variable{T l:Hp}{L:Nat}{x a b c d e f:cE}(h:T.length=L)
include h
def DG:cO T L x=T++[x]:=by subst h;exact eK
def avc:cO (T++a::l) L x=T++x::l:=KN (j:=0) h
def avd:cO (T++a::b::l) (L+1) x=T++a::x::l:=by rw[KN h];simp[cO]
def ave:cO (T++a::b::c::l) (L+2) x=T++a::b::x::l:=by rw[KN h];simp[cO]
def avf:cO (T++a::b::c::d::l) (L+3) x=T++a::b::c::x::l:=by rw[KN h];simp[cO]
def avg:cO (T++a::b::c::d::e::l) (L+4) x=T++a::b::c::d::x::l:=by rw[KN h];simp[cO]
def agR{j:Nat}:(T++l)[L+j]?=l[j]?:=by subst h;rw[aT6 (by omega),aT2]
def akW:(T++l)[L]?=l[0]?:=agR (j:=0) h
end
def V6:AV.aH.cells=[.aH]:=rfl
def Cj{cs:List AV}{n:Nat}:(AV.aK cs n).cells=[.aK cs n]:=rfl
def V5{b o n s k:Nat}:(AV.aI b o n s k).cells=[.aI b o n s k]:=rfl
def aed{cs:List AV}{n:Nat}:cN (AV.aK cs n)=true:=rfl
def Q6{b o n s k:Nat}:cN (AV.aI b o n s k)=true:=rfl
def aec:cN AV.aH=true:=rfl
def Oi{b o:Nat}:Td (.bK b o)=some (.bK b o):=rfl
def alw{cs:List AV}{o:Nat}:Td (.cS cs o)=some (.cS cs o):=rfl
def aof{n j k:Nat}:(n+j==n+k)=(j==k):=by rw[Bool.eq_iff_iff,beq_iff_eq,beq_iff_eq];omega
def aia{n k:Nat}:(n==n+(k+1))=false:=beq_eq_false_iff_ne.2 (by omega)
def aib{n k:Nat}:(n+(k+1)==n)=false:=beq_eq_false_iff_ne.2 (by omega)
end Go.Proofs.YtmkjgfnicfpjpaaGreatDoor
namespace Go.Proofs.YtmkjgfnicfpjpaaGreatDoor
open Go Dv
variable{E:Env}[C:Ctx E]
def ct:=dJ (dJ @af0 (And.intro @ajd @afS) @ahR (And.intro @ahk @amd)) (dJ @DG (And.intro @avc @avd) @ave (And.intro @avf @avg)) (dJ @agR (And.intro @akW @aof) @aia (And.intro @aib @Oi)) (dJ @alw (And.intro @V6 @Cj) (And.intro @V5 @aed) (And.intro @Q6 @aec))
def eL{cs:List AV}{o:Nat}:eg (.cS cs o)=[]:=rfl
def lW(cs:List AV)(n:Nat):AV:=if n=0 then .aH else .aK cs n
def uy.fz{s low n:Nat}{v:AV}{H:Hp}{cs:List AV}(h:uy s low v H n cs)(hl:cs.length=n*s)(hf:∀c∈cs,Flat c):∃bs,sI (aU v) H [v]=some ([lW cs n],bs):=by
 rcases h with⟨rfl,rfl,rfl⟩|⟨h0,b,h1,h2,rfl,h3⟩
 ·exact⟨[],rfl⟩
 ·refine⟨[b],?_⟩;rw[show aU (.aI b 0 n s n)=false from rfl,show lW cs n=.aK cs n by unfold lW;rw[if_neg (by omega)]];exact yg h3 (by decide) hl hf
def qR{cs:List AV}{n:Nat}(h:aV cs=true):aU (lW cs n)=true:=by
 unfold lW;split
 ·rfl
 ·simpa[aU]using h
def iX{k:IntKind}{z:Int}:Flat (.int k z):=fun _ _=>rfl
def uy.app{s low n:Nat}{v:AV}{H l:Hp}{cs:List AV}(h:uy s low v H n cs):uy s low v (H++l) n cs:=by
 rcases h with⟨a,b,c⟩|⟨h0,b,h1,h2,h3,h4⟩
 ·exact .inl ⟨a,b,c⟩
 ·exact .inr ⟨h0,b,h1,by rw[aL9];omega,h3,by rw[aOr h2];exact h4⟩
def uy.len{s low n:Nat}{v:AV}{H:Hp}{cs:List AV}(h:uy s low v H n cs):lH v=some (n:Int):=by
 rcases h with⟨rfl,_,rfl⟩|⟨_,b,_,_,rfl,_⟩<;>rfl
def uy.low{s low l2 n:Nat}{v:AV}{H:Hp}{cs:List AV}(h:uy s low v H n cs)(hl:l2<=low):uy s l2 v H n cs:=by
 rcases h with h|⟨h0,b,h1,h2⟩
 ·exact .inl h
 ·exact .inr ⟨h0,b,by omega,h2⟩
def jd{s o:Nat}{cs:List AV}(h:o+s<=cs.length):eW true s cs o=some (.agg ((cs.drop o).take s)):=by simp[eW,h]
def GP(E:Env)(t n e:Nat):Bool:=match E.ty t with
 |some i=>(match i.cD with|.array m f=>i.dK&&(m==n&&f==e)|_=>false)
 |none=>false
def Cx{E:Env}(C:Ctx E){t n e:Nat}(h:GP E0 t n e=true:=by kernel_rfl):GP E t n e=true:=by unfold GP at h⊢;rw[C.ty];exact h
def adJ{m:Nat}{a b:Int}:nP E (m+1) 3 (.int .i64 a) (.int .i64 b)=some (a==b):=by
 have h:gk E 3=some .i64:=zW C;unfold gk at h;unfold nP;cases hi:E.ty 3 with
 |none=>rw[hi]at h;cases h
 |some i=>
  rw[hi]at h;obtain⟨cD,jA,jS,jB,jZ,dK⟩:=i;cases cD<;>first|(cases h;done)|simp
def iA(l:List Int):List AV:=l.map (.int .i64)
def C7{m:Nat}{xs ys:List Int}(hp:∀(l:List AV) (j:Nat),eS E 3 l j=l[j]?):
  ∀(k i:Nat),i+k<=xs.length->i+k<=ys.length->lz E (nP E (m+1)) 3 1 (iA xs) (iA ys) k i=some (decide ((xs.drop i).take k=(ys.drop i).take k))
 |0,i,_,_=>by simp[lz]
 |k+1,i,hx,hy=>by
  have ih:=C7 (m:=m) (xs:=xs) (ys:=ys) hp k (i+1) (by omega) (by omega);have h1:(iA xs)[i]?=some (.int .i64 xs[i]):=by unfold iA;rw[aM4,aL6 (by omega)];rfl
  have h2:(iA ys)[i]?=some (.int .i64 ys[i]):=by unfold iA;rw[aM4,aL6 (by omega)];rfl
  unfold lz;simp only[Nat.mul_one,hp,h1,h2,adJ];rw[aRx (l:=xs) (by omega),aRx (l:=ys) (by omega),aRg,aRg];by_cases he:xs[i]=ys[i]
  ·rw[show(xs[i]==ys[i])=true by simpa using he,he];simp only[ih,List.cons.injEq,true_and]
  ·rw[show(xs[i]==ys[i])=false by simpa using he];simp[he]
def yu{t n m:Nat}(h:GP E t n 3=true)(hai:gO E t=some (n,false,1)){xs ys:List Int}(hx:xs.length=n)(hy:ys.length=n):
  nP E (m+2) t (.agg (iA xs)) (.agg (iA ys))=some (decide (xs=ys)):=by
 unfold GP at h;unfold gO at hai;cases hi:E.ty t with
 |none=>rw[hi]at h;cases h
 |some i=>
  rw[hi]at h hai;obtain⟨cD,jA,jS,jB,jZ,dK⟩:=i;cases cD<;>first|(cases h;done)|skip
  rename_i q f;simp only[aM6,beq_iff_eq]at h;obtain⟨h1,rfl,rfl⟩:=h;subst h1;simp only at hai;cases he:E.ty 3 with
  |none=>rw[he]at hai;cases hai
  |some ei=>
   rw[he]at hai;simp only[Option.some.injEq,Prod.mk.injEq]at hai;obtain⟨-,h2,h3⟩:=hai;have hp:∀(l:List AV) (j:Nat),eS E 3 l j=l[j]?:=by intro l j;simp[eS,he,h2]
   unfold nP;simp only[hi,he,h3];rw[C7 (m:=m) hp q 0 (by omega) (by omega),aRj,aRj,aPk (by omega),aPk (by omega)]
def Jz{c:Bool}{t n:Nat}(h:GP E t n 3=true)(hai:gO E t=some (n,false,1)){xs ys:List Int}(hx:xs.length=n)(hy:ys.length=n):
  cp E c .eql t (.agg (iA xs)) (.agg (iA ys))=some (.bool (decide (xs=ys))):=by
 have e1:=yu (m:=18) h hai hx hy;unfold GP at h;cases hi:E.ty t with
 |none=>rw[hi]at h;cases h
 |some i=>
  rw[hi]at h;obtain⟨cD,jA,jS,jB,jZ,dK⟩:=i;cases cD<;>first|(cases h;done)|skip
  simp only[aM6]at h;obtain⟨h1,-⟩:=h;subst h1;simp[cp,cp.sa,hi,e1]
def Fr(H:Hp)(m:Nat)(v v':AV)(bs:List Nat):Prop:=∀n,m<=n->Dv.fz H n v=some (v',bs)
def ft(H:Hp)(m:Nat)(l l':List AV)(bs:List Nat):Prop:=∀n,m<=n->∃r,e9 (Dv.fz H n) l=some r/\r.map (·.1)=l'/\r.flatMap (·.2)=bs
section
variable{H:Hp}{m:Nat}{v v':AV}{l l' cs:List AV}{bs bl:List Nat}{b off len esz k f:Nat}{st:qW}
def Fr.flat(h:Flat v):Fr H 1 v v []:=by intro n hn;obtain⟨q,rfl⟩:∃q,n=q+1:=⟨n-1,by omega⟩;exact h H q
def Fr.up{m':Nat}(h:Fr H m v v' bs)(hm:m<=m'):Fr H m' v v' bs:=fun n hn=>h n (aNW hm hn)
def ft.up{m':Nat}(h:ft H m l l' bs)(hm:m<=m'):ft H m' l l' bs:=fun n hn=>h n (aNW hm hn)
def ft.nil:ft H m [] [] []:=fun n _=>⟨[],rfl,rfl,rfl⟩
def ft.cons(h:Fr H m v v' bs)(hl:ft H m l l' bl):ft H m (v::l) (v'::l') (bs++bl):=by intro n hn;obtain⟨r,h1,h2,h3⟩:=hl n hn;refine⟨(v',bs)::r,?_,by rw[aM5,h2],by rw[aNj,h3]⟩;unfold e9;rw[h n hn,h1]
def ft.flat(h:∀v∈l,Flat v):ft H 1 l l []:=by intro n hn;obtain⟨q,rfl⟩:∃q,n=q+1:=⟨n-1,by omega⟩;exact⟨_,qJ h,yF,nQ⟩
def ft.append{l2 l2':List AV}{b2:List Nat}(h:ft H m l l' bs)(h2:ft H m l2 l2' b2):ft H m (l++l2) (l'++l2') (bs++b2):=by
 intro n hn;obtain⟨r,h3,h4,h5⟩:=h n hn;obtain⟨s,h6,h7,h8⟩:=h2 n hn;refine⟨r++s,?_,by rw[List.map_append,h4,h7],by rw[List.flatMap_append,h5,h8]⟩;clear h h2 h4 h5 h7 h8;induction l generalizing r with
 |nil=>cases h3;exact h6
 |cons x l ih=>
  unfold e9 at h3;rw[List.cons_append];unfold e9;cases hx:Dv.fz H n x with
  |none=>rw[hx]at h3;cases h3
  |some y=>
   rw[hx]at h3;simp only at h3;cases hm:e9 (Dv.fz H n) l with
   |none=>rw[hm]at h3;cases h3
   |some ys=>
    rw[hm]at h3;cases h3;simp only;rw[ih _ hm];rfl
def Fr.hs(h:H[b]?=some (.cells st cs))(hd:st≠ .dead)(hle:off+len*esz<=cs.length)(hr:ft H m ((cs.drop off).take (len*esz)) l' bs):Fr H (m+1) (.aI b off len esz k) (.aK l' len) (b::bs):=by intro n hn;obtain⟨q,rfl⟩:∃q,n=q+1:=⟨n-1,by omega⟩;obtain⟨r,h1,h2,h3⟩:=hr q (by omega);rw[W5 h hd (by omega) h1,h2,h3]
def Fr.hsA(h:H[b]?=some (.cells st cs))(hd:st≠ .dead)(hle:cs.length=len*esz)(hr:ft H m cs l' bs):Fr H (m+1) (.aI b 0 len esz k) (.aK l' len) (b::bs):=by refine Fr.hs h hd (by omega) ?_;rw[aRj,<-hle,aPo];exact hr
def Fr.hp(h:H[b]?=some (.cells st cs))(hd:st≠ .dead)(hr:ft H m cs l' bs):Fr H (m+1) (.bK b off) (.cS l' off) (b::bs):=by intro n hn;obtain⟨q,rfl⟩:∃q,n=q+1:=⟨n-1,by omega⟩;obtain⟨r,h1,h2,h3⟩:=hr q (by omega);unfold Dv.fz;simp only[h,h1];rw[if_neg hd];simp only[aMi,h2,h3]
def Fr.agg(hr:ft H m cs l' bs):Fr H (m+1) (.agg cs) (.agg l') bs:=by intro n hn;obtain⟨q,rfl⟩:∃q,n=q+1:=⟨n-1,by omega⟩;obtain⟨r,h1,h2,h3⟩:=hr q (by omega);unfold Dv.fz;simp only[h1,aMi,h2,h3]
def Fr.tup(hr:ft H m cs l' bs):Fr H (m+1) (.tuple cs) (.tuple l') bs:=by intro n hn;obtain⟨q,rfl⟩:∃q,n=q+1:=⟨n-1,by omega⟩;obtain⟨r,h1,h2,h3⟩:=hr q (by omega);unfold Dv.fz;simp only[h1,aMi,h2,h3]
def Fr.func(hr:ft H m cs l' bs):Fr H (m+1) (.func f [] cs) (.func f [] l') bs:=by intro n hn;obtain⟨q,rfl⟩:∃q,n=q+1:=⟨n-1,by omega⟩;obtain⟨r,h1,h2,h3⟩:=hr q (by omega);unfold Dv.fz;simp only[h1,h2,h3,e9,List.map_nil,aUn,aMi,List.nil_append]
def nk(h:ft H m l l' bs)(hm:m<=40)(hp:aV l=false):sI false H l=some (l',bs):=by obtain⟨r,h1,h2,h3⟩:=h 40 hm;rw[xF];unfold bX;rw[hp,if_neg (by decide),h1];simp only[h2,h3]
def Pq(h:ft H m l l' bs)(hm:m<=40)(hp:aV l=true->l'=l):∃Vh,sI (aV l) H l=some (l',Vh):=by
 cases hb:aV l with
 |true=>exact⟨[],by rw[mH,hp hb]⟩
 |false=>exact⟨bs,nk h hm hb⟩
def BD{n:Nat}:Flat (.aK cs n):=fun _ _=>rfl
def Fx{t:Bool}:Flat (.bool t):=fun _ _=>rfl
def CK:Flat .aH:=fun _ _=>rfl
def CJ:Flat (.func f [] []):=fun _ _=>rfl
end
end Go.Proofs.YtmkjgfnicfpjpaaGreatDoor
namespace Dv
structure I3 where
 x:Int
 y:Int
 z:Int
 deriving DecidableEq
namespace I3
def sb(a b:I3):I3:=⟨a.x-b.x,a.y-b.y,a.z-b.z⟩
def cr(a b:I3):I3:=⟨a.y*b.z-a.z*b.y,a.z*b.x-a.x*b.z,a.x*b.y-a.y*b.x⟩
def dt(a b:I3):Int:=a.x*b.x+a.y*b.y+a.z*b.z
def zr:I3:=⟨0,0,0⟩
def ajj(N f u v w:I3):dt N (cr u v)*dt f w+dt N (cr v w)*dt f u+dt N (cr w u)*dt f v=dt u (cr v w)*dt N f:=by
 obtain⟨n1,n2,n3⟩:=N;obtain⟨f1,f2,f3⟩:=f;obtain⟨a1,a2,a3⟩:=u;obtain⟨b1,b2,b3⟩:=v;obtain⟨c1,c2,c3⟩:=w
 simp only[dt,cr];grind
def aqI(N u v w:I3):dt u (cr v w)*N.x=dt N u*(cr v w).x+dt N v*(cr w u).x+dt N w*(cr u v).x:=by
 obtain⟨n1,n2,n3⟩:=N;obtain⟨a1,a2,a3⟩:=u;obtain⟨b1,b2,b3⟩:=v;obtain⟨c1,c2,c3⟩:=w
 simp only[dt,cr];grind
def aqJ(N u v w:I3):dt u (cr v w)*N.y=dt N u*(cr v w).y+dt N v*(cr w u).y+dt N w*(cr u v).y:=by
 obtain⟨n1,n2,n3⟩:=N;obtain⟨a1,a2,a3⟩:=u;obtain⟨b1,b2,b3⟩:=v;obtain⟨c1,c2,c3⟩:=w
 simp only[dt,cr];grind
def aqK(N u v w:I3):dt u (cr v w)*N.z=dt N u*(cr v w).z+dt N v*(cr w u).z+dt N w*(cr u v).z:=by
 obtain⟨n1,n2,n3⟩:=N;obtain⟨a1,a2,a3⟩:=u;obtain⟨b1,b2,b3⟩:=v;obtain⟨c1,c2,c3⟩:=w
 simp only[dt,cr];grind
def key{N u v w:I3}(f:I3)(hN:N≠zr)(hu:dt N u=0)(hv:dt N v=0)(hw:dt N w=0):
  dt N (cr u v)*dt f w+dt N (cr v w)*dt f u+dt N (cr w u)*dt f v=0:=by
 have hx:=aqI N u v w;have hy:=aqJ N u v w;have hz:=aqK N u v w
 rw[hu,hv,hw]at hx hy hz;simp only[aUe,aUc,aT7]at hx hy hz
 have:dt u (cr v w)=0:=by
  rcases hx with h|hx;exact h
  rcases hy with h|hy;exact h
  rcases hz with h|hz;exact h
  exact absurd (by cases N;simp_all [zr]) hN
 rw[ajj,this,aUe]
def tn(N a b c:I3):Int:=dt N (cr (sb b a) (sb c a))
def q(a b:I3):Int:=dt (sb b a) (sb b a)
def Rz(N a b c:I3):tn N a c b= -tn N a b c:=by
 obtain⟨n1,n2,n3⟩:=N;obtain⟨a1,a2,a3⟩:=a;obtain⟨b1,b2,b3⟩:=b;obtain⟨c1,c2,c3⟩:=c
 simp only[tn,dt,cr,sb];grind
def aml(N a b c:I3):tn N b c a=tn N a b c:=by
 obtain⟨n1,n2,n3⟩:=N;obtain⟨a1,a2,a3⟩:=a;obtain⟨b1,b2,b3⟩:=b;obtain⟨c1,c2,c3⟩:=c
 simp only[tn,dt,cr,sb];grind
def sqn(a:Int):0<=a*a:=by
 rcases Int.le_total 0 a with h|h
 ·exact aT3 h h
 ·exact Int.mul_nonneg_of_nonpos_of_nonpos h h
def ZE(a b:I3):0<=q a b:=by
 simp only[q,dt];have h1:=sqn (sb b a).x;have h2:=sqn (sb b a).y;have h3:=sqn (sb b a).z
 omega
def sq0{a b c:Int}(h:a*a+b*b+c*c=0):a=0/\b=0/\c=0:=by
 have h1:=sqn a;have h2:=sqn b;have h3:=sqn c
 have e1:a*a=0:=by omega
 have e2:b*b=0:=by omega
 have e3:c*c=0:=by omega
 simp only[aT7,or_self]at e1 e2 e3;exact⟨e1,e2,e3⟩
def par{N u v:I3}(hN:N≠zr)(hu:dt N u=0)(hv:dt N v=0)(h:dt N (cr u v)=0):cr u v=zr:=by
 have e:dt N N*dt (cr u v) (cr u v)=dt N (cr u v)*dt N (cr u v)+(dt N v*dt u u-dt N u*dt u v)*dt N v+(dt N u*dt v v-dt N v*dt u v)*dt N u:=by
  obtain⟨n1,n2,n3⟩:=N;obtain⟨a1,a2,a3⟩:=u;obtain⟨b1,b2,b3⟩:=v
  simp only[dt,cr];grind
 rw[h,hu,hv]at e;simp only[aUe,aT8,aUc,aT7]at e;rcases e with e|e
 ·obtain⟨h1,h2,h3⟩:=sq0 e;exact absurd (by cases N;simp_all [zr]) hN
 ·obtain⟨h1,h2,h3⟩:=sq0 e;generalize cr u v=w at*;cases w;simp_all [zr]
def Rb{u v:I3}(f:I3)(h:cr u v=zr):dt f u*dt v v=dt f v*dt u v:=by
 have e:dt f u*dt v v-dt f v*dt u v=dt (cr f v) (cr u v):=by
  obtain⟨n1,n2,n3⟩:=f;obtain⟨a1,a2,a3⟩:=u;obtain⟨b1,b2,b3⟩:=v
  simp only[dt,cr];grind
 rw[h]at e;simp only[dt,zr,aT8,aUc]at e;simp only[dt]at*;omega
def alS{u v:I3}(f g:I3)(h:cr u v=zr):dt f u*dt g v=dt f v*dt g u:=by
 have e:dt f u*dt g v-dt f v*dt g u=dt (cr f g) (cr u v):=by
  obtain⟨n1,n2,n3⟩:=f;obtain⟨g1,g2,g3⟩:=g;obtain⟨a1,a2,a3⟩:=u;obtain⟨b1,b2,b3⟩:=v
  simp only[dt,cr];grind
 rw[h]at e;simp only[dt,zr,aT8,aUc]at e;simp only[dt]at*;omega
def avN(N x a b:I3):tn N x a b=dt N (cr (sb a x) (sb b x)):=rfl
def PT(f a b:I3):dt f (sb a b)=dt f a-dt f b:=by
 obtain⟨n1,n2,n3⟩:=f;obtain⟨a1,a2,a3⟩:=a;obtain⟨b1,b2,b3⟩:=b
 simp only[dt,sb];grind
def PO(N u v:I3):dt N (cr v u)= -dt N (cr u v):=by
 obtain⟨n1,n2,n3⟩:=N;obtain⟨a1,a2,a3⟩:=u;obtain⟨b1,b2,b3⟩:=v
 simp only[dt,cr];grind
def PS(u v:I3):dt u v=dt v u:=by
 obtain⟨a1,a2,a3⟩:=u;obtain⟨b1,b2,b3⟩:=v
 simp only[dt];grind
def af3{u v:I3}(h:cr u v=zr):cr v u=zr:=by
 obtain⟨a1,a2,a3⟩:=u;obtain⟨b1,b2,b3⟩:=v
 simp only[cr,zr,I3.mk.injEq]at*;refine⟨?_,?_,?_⟩<;>grind
def Z8{u v:I3}(h:dt u u-2*dt u v+dt v v=0:=by omega):u=v:=by
 obtain⟨a1,a2,a3⟩:=u;obtain⟨b1,b2,b3⟩:=v
 simp only[dt]at h;have e:(a1-b1)*(a1-b1)+(a2-b2)*(a2-b2)+(a3-b3)*(a3-b3)=0:=by grind
 obtain⟨h1,h2,h3⟩:=sq0 e;simp only[I3.mk.injEq];omega
def zn(N x n i:I3):Prop:=0<tn N x n i∨tn N x n i=0/\q x i<=q x n
def pV(N x n i:I3):Prop:=tn N x n i<0∨tn N x n i=0/\q x n<q x i
def rK{a b:Int}(hb:0<b)(h:0<a*b:=by omega):0<a:=by
 rcases aUf 0 a with h1|h1
 ·exact h1
 ·have:=Int.mul_nonpos_of_nonpos_of_nonneg h1 (aT9 hb);omega
def ur{a b:Int}(hb:0<b)(h:a*b=0):a=0:=by rcases aT7.1 h with h|h;exact h;omega
def abr{N x n i j f:I3}(hN:N≠zr)(h1:dt N (sb n x)=0)(h2:dt N (sb i x)=0)(h3:dt N (sb j x)=0)
  (f1:0<dt f (sb n x)) (f2:0<dt f (sb i x)) (f3:0<dt f (sb j x)) (hb:pV N x n i) (hj:zn N x n j):zn N x i j:=by
 have k:=key f hN h2 h1 h3;rw[PO N (sb i x) (sb j x),PO N (sb n x) (sb i x)]at k;simp only[pV,zn,avN,q]at*;generalize dt N (cr (sb n x) (sb i x))=A at*;generalize dt N (cr (sb n x) (sb j x))=B at*;generalize dt N (cr (sb i x) (sb j x))=C at*;generalize dt f (sb n x)=a at*;generalize dt f (sb i x)=b at*;generalize dt f (sb j x)=c at*
 have e:C*a=B*b+(-A)*c:=by grind
 have hB:0<=B:=by omega
 have hA:0<=-A:=by omega
 have p1:=aT3 hB (aT9 f2);have p2:=aT3 hA (aT9 f3);rcases aT4 hA with hA'|hA'
 ·have p3:=aUa hA' f3;exact Or.inl (rK f1)
 ·rcases aT4 hB with Sn|Sn
  ·have p3:=aUa Sn f2;exact Or.inl (rK f1)
  ·refine Or.inr ⟨ur f1 ?_,by omega⟩;rw[e,<-hA',<-Sn];simp
def abq{N x n i:I3}(h:¬pV N x n i):zn N x n i:=by simp only[pV,zn]at*;omega
def Ff(N x i:I3):zn N x i i:=by
 refine Or.inr ⟨?_,Int.le_refl _⟩
 have:=Rz N x i i;omega
def lam{α β U V W:Int}(ha:0<α)(hb:0<β)(hU:0<U)(e1:α*V=β*W)(e2:β*U=α*W)(hV:V<=U):
  W<U∨(W=U/\V=U):=by
 have e3:β*(β*U)=α*(α*V):=by grind
 have hle:β<=α:=by
  rcases aUf α β with h|h
  ·have h1:α*(α*V)<=α*(α*U):=aST (aST hV (aT9 ha)) (aT9 ha);have h2:α*U<β*U:=aT5 h hU;have h3:α*(α*U)<α*(β*U):=aUb h2 ha;have h4:α*(β*U)<β*(β*U):=aT5 h (aUa hb hU);omega
  ·exact h
 rcases aT4 hle with h|h
 ·refine Or.inl ?_;have h2:β*U<α*U:=aT5 h hU;have h3:0<α*(U-W):=by rw[aUm];omega
  have:=rK (a:=U-W) ha (by rw[aUg];exact h3)
  omega
 ·subst h;have h2:W=U:=by
   have:β*(U-W)=0:=by rw[aUm];omega
   have:=ur (a:=U-W) ha (by rw[aUg];exact this)
   omega
  refine Or.inr ⟨h2,?_⟩
  have:β*(V-W)=0:=by rw[aUm];omega
  have:=ur (a:=V-W) ha (by rw[aUg];exact this)
  omega
def acA{N x y i f:I3}(hN:N≠zr)(h1:dt N (sb y x)=0)(h2:dt N (sb i x)=0)
  (f1:0<dt f (sb y x)) (f2:0<dt f (sb i x)) (ht:tn N x y i=0) (hq:q x i<=q x y) (ej:i≠y):0<dt (sb x y) (sb i y):=by
 have hp:=par hN h1 h2 ht;have e1:=Rb f hp;have e2:=Rb f (af3 hp);rw[PS (sb i x) (sb y x)]at e2;have hU:0<dt (sb y x) (sb y x):=by
  rcases aT4 (ZE x y)with h|h
  ·exact h
  ·obtain⟨z1,z2,z3⟩:=sq0 h.symm;simp only[dt,z1,z2,z3]at f1;omega
 have e4:dt (sb x y) (sb i y)=dt (sb y x) (sb y x)-dt (sb y x) (sb i x):=by
  obtain⟨n1,n2,n3⟩:=x;obtain⟨a1,a2,a3⟩:=y;obtain⟨b1,b2,b3⟩:=i
  simp only[dt,sb];grind
 rw[e4];rcases lam f1 f2 hU e1 e2 hq with h|⟨h,h'⟩
 ·omega
 ·have:=Z8 (u:=sb y x) (v:=sb i x)
  refine absurd ?_ ej;obtain⟨n1,n2,n3⟩:=x;obtain⟨a1,a2,a3⟩:=y;obtain⟨b1,b2,b3⟩:=i
  simp only[sb,I3.mk.injEq]at*;omega
def XW{N x y z f g:I3}(hN:N≠zr)(h1:dt N (sb z x)=0)(h2:dt N (sb y x)=0)
  (f1:0<dt f (sb z x)) (f2:0<dt f (sb y x)) (g1:0<dt g (sb z y)) (g2:0<dt g (sb x y))
  (b1:zn N x z y) (b2:zn N y z x) (hyz:y≠z):False:=by
 have e1:tn N y z x= -tn N x z y:=by rw[<-Rz,<-aml N x y z]
 simp only[zn]at b1 b2;have ht:tn N x z y=0:=by omega
 have hq:q x y<=q x z:=by omega
 have hp:=par hN h1 h2 ht;have p1:=Rb f hp;have p2:=Rb f (af3 hp);have p3:=alS f g hp;rw[PS (sb y x) (sb z x)]at p2;have hU:0<dt (sb z x) (sb z x):=by
  rcases aT4 (ZE x z)with h|h
  ·exact h
  ·obtain⟨z1,z2,z3⟩:=sq0 h.symm;simp only[dt,z1,z2,z3]at f1;omega
 have hz:sb z y=sb (sb z x) (sb y x):=by
  obtain⟨n1,n2,n3⟩:=x;obtain⟨a1,a2,a3⟩:=y;obtain⟨b1,b2,b3⟩:=z
  simp only[sb,I3.mk.injEq];omega
 have hx:dt g (sb x y)= -dt g (sb y x):=by rw[PT,PT];omega
 rw[hz,PT]at g1;rw[hx]at g2;generalize dt g (sb z x)=c at*;generalize dt g (sb y x)=d at*
 generalize dt f (sb z x)=a at*;generalize dt f (sb y x)=b at*
 have hc:c<0:=by
  have:(-c)*b=(-d)*a:=by grind
  have h:=aUa g2 f1
  have:=rK (a:= -c) f2
  omega
 rcases lam f1 f2 hU p1 p2 hq with h|⟨h,h'⟩
 ·
  have e:a*(c-d)=(a-b)*c:=by grind
  have h2:0<a*(c-d):=aUa f1 (by omega);have h3:(a-b)*(-c)<0:=by rw[Int.mul_neg];omega
  have hba:a<b:=by
   rcases aUf a b with h4|h4
   ·exact h4
   ·have:=aT3 (a:=a-b) (b:= -c) (by omega) (by omega);omega
  have h5:a*dt (sb z x) (sb y x)<a*dt (sb z x) (sb z x):=aUb h f1;have h6:a*dt (sb z x) (sb z x)<b*dt (sb z x) (sb z x):=aT5 hba hU;omega
 ·have:=Z8 (u:=sb z x) (v:=sb y x)
  refine absurd ?_ hyz;obtain⟨n1,n2,n3⟩:=x;obtain⟨a1,a2,a3⟩:=y;obtain⟨b1,b2,b3⟩:=z
  simp only[sb,I3.mk.injEq]at*;omega
end I3
namespace I3
def Zy:∀(l m:List Nat),l.Nodup->(∀x∈l,x∈m)->l.length<=m.length:=by
 intro l;induction l with
 |nil=>intros;simp
 |cons a l ih=>
  intro m hn hs;rw[List.nodup_cons]at hn;have h1:a∈m:=hs a (by simp);have h2:=ih (m.erase a) hn.2 (fun x hx=>(List.mem_erase_of_ne (by rintro rfl;exact hn.1 hx)).2 (hs x (by simp[hx])));have h3:0<m.length:=List.length_pos_of_mem h1;rw[List.length_erase_of_mem h1]at h2;simp only[List.length_cons];omega
instance (N x n i:I3):Decidable (pV N x n i):=by unfold pV;infer_instance
def z7(N:I3)(p:Nat->I3)(x:Nat):List Nat->Option Nat->Option Nat
 |[],n=>n
 |i::l,n=>if i=x then z7 N p x l n else
   match n with
   |none=>z7 N p x l (some i)
   |some m=>if pV N (p x) (p m) (p i)then z7 N p x l (some i)else z7 N p x l (some m)
structure Pl(N:I3)(p:Nat->I3)(on:List Nat):Prop where
 nz:N≠zr
 pl:∀i∈on,∀j∈on,dt N (sb (p i) (p j))=0
 ij:∀i∈on,∀j∈on,p i=p j->i=j
def Ext(p:Nat->I3)(on:List Nat)(x:Nat):Prop:=∃f,∀i∈on,i≠x->0<dt f (sb (p i) (p x))
def KI{N:I3}{p:Nat->I3}{on:List Nat}{x:Nat}{f:I3}(P:Pl N p on)(hx:x∈on)(hf:∀i∈on,i≠x->0<dt f (sb (p i) (p x))):
  ∀(l:List Nat) (n:Option Nat) (seen:List Nat),(∀i∈l,i∈on)->(∀i∈seen,i∈on)->
   (∀m,n=some m->m∈on/\m≠x/\∀i∈seen,i≠x->zn N (p x) (p m) (p i))->(n=none->∀i∈seen,i=x)->
   (∀m,z7 N p x l n=some m->m∈on/\m≠x/\∀i∈seen++l,i≠x->zn N (p x) (p m) (p i))/\(z7 N p x l n=none->∀i∈seen++l,i=x):=by
 intro l;induction l with
 |nil=>intro n seen hl hs h1 h2;simp only[z7,List.append_nil];exact⟨h1,h2⟩
 |cons a l ih=>
  intro n seen hl hs h1 h2;have ha:a∈on:=hl a (by simp);have pO:∀i∈l,i∈on:=fun i hi=>hl i (by simp[hi])
  have xp:∀i∈seen++[a],i∈on:=by
   intro i hi;simp only[aM7,aNh]at hi
   rcases hi with hi|rfl;exact hs i hi;exact ha
  have re:seen++a::l=(seen++[a])++l:=by simp
  rw[re];simp only[z7]
  split
  ·rename_i Ul;subst Ul
   refine ih n (seen++[a]) pO xp ?_ ?_
   ·intro m hm;obtain⟨q1,q2,q3⟩:=h1 m hm
    refine⟨q1,q2,fun i hi ej=>?_⟩;simp only[aM7,aNh]at hi;rcases hi with hi|rfl;exact q3 i hi ej;exact absurd rfl ej
   ·intro hn i hi;simp only[aM7,aNh]at hi
    rcases hi with hi|rfl;exact h2 hn i hi;rfl
  ·rename_i Ul;cases n with
   |none=>
    refine ih (some a) (seen++[a]) pO xp ?_ (by simp);intro m hm;injection hm with hm;subst hm
    refine⟨ha,Ul,fun i hi ej=>?_⟩;simp only[aM7,aNh]at hi;rcases hi with hi|rfl;exact absurd (h2 rfl i hi) ej;exact Ff _ _ _
   |some m=>
    obtain⟨q1,q2,q3⟩:=h1 m rfl
    dsimp only
    split
    ·rename_i hb;refine ih (some a) (seen++[a]) pO xp ?_ (by simp);intro m' hm;injection hm with hm;subst hm
     refine⟨ha,Ul,fun i hi ej=>?_⟩;simp only[aM7,aNh]at hi;rcases hi with hi|rfl
     ·exact abr P.nz (P.pl _ q1 _ hx) (P.pl _ ha _ hx) (P.pl _ (hs i hi) _ hx) (hf _ q1 q2) (hf _ ha Ul) (hf _ (hs i hi) ej) hb (q3 i hi ej)
     ·exact Ff _ _ _
    ·rename_i hb;refine ih (some m) (seen++[a]) pO xp ?_ (by simp);intro m' hm;injection hm with hm;subst hm
     refine⟨q1,q2,fun i hi ej=>?_⟩;simp only[aM7,aNh]at hi;rcases hi with hi|rfl;exact q3 i hi ej;exact abq hb
def bnd(g:Nat->Int):∀l:List Nat,∃K:Int,0<=K/\∀i∈l,-K<g i:=by
 intro l;induction l with
 |nil=>exact⟨0,by omega,by simp⟩
 |cons a l ih=>
  obtain⟨K,hK,h⟩:=ih;refine⟨K+(g a).natAbs+1,by omega,fun i hi=>?_⟩;rcases List.mem_cons.1 hi with rfl|hi
  ·omega
  ·have:=h i hi;omega
def WG{N:I3}{p:Nat->I3}{on:List Nat}{x y:Nat}(P:Pl N p on)(hx:x∈on)(hy:y∈on)(ej:y≠x)(he:Ext p on x)
  (hb:∀i∈on,i≠x->zn N (p x) (p y) (p i)):Ext p on y:=by
 obtain⟨f,hf⟩:=he;obtain⟨K,hK,hk⟩:=bnd (fun i=>dt (sb (p x) (p y)) (sb (p i) (p y))) on
 let h:I3:=cr N (sb (p y) (p x))
 let w:I3:=sb (p x) (p y)
 let F:I3:=⟨(K+1)*h.x+w.x,(K+1)*h.y+w.y,(K+1)*h.z+w.z⟩
 have hF:∀v,dt F v=(K+1)*dt h v+dt w v:=by
  intro v;obtain⟨v1,v2,v3⟩:=v;simp only[F,dt]
  generalize h.x=h1;generalize h.y=h2;generalize h.z=h3;generalize w.x=w1;generalize w.y=w2;generalize w.z=w3
  grind
 have hh:∀i,dt h (sb (p i) (p y))=tn N (p x) (p y) (p i):=by
  intro i;simp only[h,tn]
  generalize p i=a;generalize p y=b;generalize p x=c
  obtain⟨n1,n2,n3⟩:=N;obtain⟨a1,a2,a3⟩:=a;obtain⟨b1,b2,b3⟩:=b;obtain⟨c1,c2,c3⟩:=c
  simp only[dt,cr,sb];grind
 refine⟨F,fun i hi hiy=>?_⟩;rw[hF,hh];by_cases qF:i=x
 ·subst qF;have h0:tn N (p i) (p y) (p i)=0:=by
   generalize p y=b;generalize p i=c
   obtain⟨n1,n2,n3⟩:=N;obtain⟨b1,b2,b3⟩:=b;obtain⟨c1,c2,c3⟩:=c
   simp only[tn,dt,cr,sb];grind
  have h1:0<dt w (sb (p i) (p y)):=by
   rcases aT4 (ZE (p y) (p i))with h|h
   ·exact h
   ·obtain⟨z1,z2,z3⟩:=sq0 h.symm;exfalso;apply ej;apply P.ij _ hy _ hi
    generalize p y=b at*;generalize p i=c at*
    obtain⟨b1,b2,b3⟩:=b;obtain⟨c1,c2,c3⟩:=c
    simp only[sb,I3.mk.injEq]at*;omega
  rw[h0,aT8];omega
 ·rcases hb i hi qF with h|⟨h,h'⟩
  ·have h1:=hk i hi;have h2:(K+1)*1<=(K+1)*tn N (p x) (p y) (p i):=aST h (by omega);simp only[w];omega
  ·rw[h,aT8,Int.zero_add];refine acA P.nz (P.pl _ hy _ hx) (P.pl _ hi _ hx) (hf _ hy ej) (hf _ hi qF) h h' (fun e=>hiy (P.ij _ hi _ hy e))
structure Way(N:I3)(p:Nat->I3)(on out:List Nat)(a last:Nat):Prop where
 nd:out.Nodup
 mo:∀x∈out,x∈on
 ex:∀x∈out,Ext p on x
 ain:a∈out
 lin:last∈out
 ch:∀y∈out,y≠a->∃z∈out,z≠last/\z7 N p z on none=some y
def aB2{N:I3}{p:Nat->I3}{on:List Nat}{a:Nat}(ha:a∈on)(he:Ext p on a):Way N p on [a] a a where
 nd:=by simp
 mo:=by simpa using ha
 ex:=by simpa using he
 ain:=by simp
 lin:=by simp
 ch:=by simp
def Way.len{N:I3}{p:Nat->I3}{on out:List Nat}{a last:Nat}(W:Way N p on out a last):out.length<=on.length:=Zy _ _ W.nd W.mo
def Way.next{N:I3}{p:Nat->I3}{on out:List Nat}{a last:Nat}(P:Pl N p on)(h2:∃i∈on,i≠last)(W:Way N p on out a last):
  ∃r,z7 N p last on none=some r/\r∈on/\(r≠a->Way N p on (out++[r]) a r):=by
 have hl:=W.mo _ W.lin;obtain⟨f,hf⟩:=W.ex _ W.lin;obtain⟨b1,b2⟩:=KI P hl hf on none [] (fun _ h=>h) (by simp) (by simp) (by simp);cases hr:z7 N p last on none with
 |none=>
  obtain⟨i,hi,hn⟩:=h2;exact absurd (b2 hr i (by simpa using hi)) hn
 |some r=>
  obtain⟨r1,r2,r3⟩:=b1 r hr;refine⟨r,rfl,r1,fun hra=>?_⟩;have hrb:∀i∈on,i≠last->zn N (p last) (p r) (p i):=fun i hi hn=>r3 i (by simpa using hi) hn
  have M0:r∉out:=by
   intro LM;obtain⟨z,hz,Ef,hzn⟩:=W.ch r LM hra;have hzo:=W.mo _ hz;obtain⟨g,hg⟩:=W.ex _ hz;obtain⟨c1,-⟩:=KI P hzo hg on none [] (fun _ h=>h) (by simp) (by simp) (by simp);obtain⟨s1,s2,s3⟩:=c1 r hzn;exact XW (x:=p z) (y:=p last) (z:=p r) (f:=g) (g:=f) P.nz (P.pl _ r1 _ hzo) (P.pl _ hl _ hzo) (hg _ r1 s2) (hg _ hl (Ne.symm Ef)) (hf _ r1 r2) (hf _ hzo Ef)
    (s3 last (by simpa using hl) (Ne.symm Ef)) (hrb z hzo Ef) (fun e=>r2 (P.ij _ r1 _ hl e.symm))
  refine⟨?_,?_,?_,?_,?_,?_⟩
  ·rw[List.nodup_append];refine⟨W.nd,by simp,?_⟩
   intro x hx y hy;simp only[aNh]at hy;subst hy;rintro rfl;exact M0 hx
  ·intro x hx;simp only[aM7,aNh]at hx
   rcases hx with hx|rfl;exact W.mo _ hx;exact r1
  ·intro x hx;simp only[aM7,aNh]at hx
   rcases hx with hx|rfl;exact W.ex _ hx;exact WG P hl r1 r2 ⟨f,hf⟩ hrb
  ·simp[W.ain]
  ·simp
  ·intro y hy hya;simp only[aM7,aNh]at hy
   rcases hy with hy|rfl
   ·obtain⟨z,hz,Ef,hzn⟩:=W.ch y hy hya;exact⟨z,by simp[hz],by rintro rfl;exact M0 hz,hzn⟩
   ·exact⟨last,by simp[W.lin],Ne.symm r2,hr⟩
def acz{p:Nat->I3}{on:List Nat}{a:Nat}(hr:∀i∈on,∀c,c=(p i).x∨c=(p i).y∨c=(p i).z->-4096<=c/\c<=4096)(ha:a∈on)
  (hl:∀i∈on,i≠a->(p a).x<(p i).x∨(p a).x=(p i).x/\((p a).y<(p i).y∨(p a).y=(p i).y/\(p a).z<(p i).z)):Ext p on a:=by
 refine⟨⟨268435456,16384,1⟩,fun i hi hn=>?_⟩;have h1:=hr i hi _ (Or.inl rfl);have h2:=hr i hi _ (Or.inr (Or.inl rfl));have h3:=hr i hi _ (Or.inr (Or.inr rfl))
 have k1:=hr a ha _ (Or.inl rfl);have k2:=hr a ha _ (Or.inr (Or.inl rfl));have k3:=hr a ha _ (Or.inr (Or.inr rfl))
 have h:=hl i hi hn;simp only[dt,sb];omega
end I3
end Dv
namespace Dv
open Go Go.RowKit
def Gy(E:Env)(l:Nat)(ts:List AV)(Q:Ex->List AV->Hp->Prop)(H2:Hp):Prop:=
 ∃st im Aj Ab zu b3,H2[l]?=some (.loop st im Aj Ab zu b3)/\st≠ .busy/\
  match im with
  |none=>Q .normal ts (H2.set l (.loop .exhausted im Aj Ab zu b3))
  |some c=>V E c ts (H2.set l (.loop .exhausted im Aj Ab zu b3)) Q
def abc{E:Env}{ts:List AV}{H:Hp}{Q:Ex->List AV->Hp->Prop}{g:Operand}{ps:Array Nat}{assign body code:Code}{f nt:Nat}{first cap:List AV}{results:List ResultVar}{pu du:Bool}
  (hg:bU ts g=some (.func f first cap)) (fC:E.fn f=some {code:=code,ntmps:=nt,results:=results,pure:=pu,eD:=du})
  (h:∀Eh:List AV,Eh=first++[.yield H.length]++cap++List.replicate (nt-(first++[AV.yield H.length]++cap).length) bT->V E code Eh (H++[.loop .ready none ts ps.toList assign body]) (o6 E results fun _ H2=>Gy E H.length ts Q H2)):
  V E (.rangeFunc g ps assign body) ts H Q:=by
 show Cv E (.rangeFunc g ps assign body) ts H Q
 obtain⟨n,ex,t1,H',h1,h2⟩:=V.cv (h _ rfl);have key:(∀id,ex≠ .exit id)/\∃rs,fL H' E t1 results=some rs/\Gy E H.length ts Q H':=by
  cases ex with
  |exit id=>exact h2.elim
  |normal=>
   rw[US]at h2;cases h3:fL H' E t1 results with
   |none=>rw[h3]at h2;exact h2.elim
   |some rs=>rw[h3,bR]at h2;exact⟨fun id h=>(by cases h),rs,rfl,h2⟩
  |ret=>
   rw[UT]at h2;cases h3:fL H' E t1 results with
   |none=>rw[h3]at h2;exact h2.elim
   |some rs=>rw[h3,bR]at h2;exact⟨fun id h=>(by cases h),rs,rfl,h2⟩
 obtain⟨ej,rs,h3,st,im,Aj,Ab,zu,b3,h4,h5,h6⟩:=key;have run:∀m,n<=m->oI E (bS E m) f (first++[.yield H.length]++cap) (H++[.loop .ready none ts ps.toList assign body])=some (gV rs,H'):=by
  intro m hm;have h1':=cY (E:=E) hm _ _ _ _ h1;unfold oI;simp only[fC,h1'];cases ex with
  |exit id=>exact absurd rfl (ej id)
  |normal=>simp only[h3,aMi]
  |ret=>simp only[h3,aMi]
 cases im with
 |none=>
  refine⟨n+1,.normal,ts,_,?_,h6⟩;show cL E (bS E n) _ _ _=_
  simp only[cL,hg,run n (aLt n),h4];rw[if_neg h5]
 |some c=>
  obtain⟨m,ex2,t2,H2,h7,h8⟩:=V.cv h6;refine⟨max n m+1,ex2,t2,H2,?_,h8⟩;show cL E (bS E (max n m)) _ _ _=_
  simp only[cL,hg,run _ (Nat.le_max_left n m),h4];rw[if_neg h5];exact cY (E:=E) (Nat.le_max_right n m) _ _ _ _ h7
def ahx(l:Nat)(G:AV->Hp->Prop)(e:Ex)(H2:Hp):Prop:=
 ∃st px Aj Ab zu b3,H2[l]?=some (.loop st px Aj Ab zu b3)/\
  match e with
  |.normal=>G (.bool true) (H2.set l (.loop .ready none Aj Ab zu b3))
  |.ret=>G (.bool false) (H2.set l (.loop .done (some .ret) Aj Ab zu b3))
  |.exit id=>G (.bool false) (H2.set l (.loop .done (some (.exit id)) Aj Ab zu b3))
def D6{E:Env}{l:Nat}{args ts ts':List AV}{H:Hp}{ahb:Option Code}{ps:List Nat}{assign body:Code}{G:AV->Hp->Prop}
  (hl:H[l]?=some (.loop .ready ahb ts ps assign body)) (hs:HN ts ps args=some ts')
  (h:V E assign ts' H fun ex t1 H1=>ex=.normal/\∃im oe ps2 as2 b2,H1[l]?=some (.loop .ready im oe ps2 as2 b2)/\V E body t1 (H1.set l (.loop .busy im oe ps2 as2 b2)) (fun e _ H2=>ahx l G e H2)):
  ∃r H',nG E l args H=some (r,H')/\G r H':=by
 obtain⟨n,ex,t1,H1,h1,rfl,im,oe,ps2,as2,b2,h2,h3⟩:=V.cv h;obtain⟨m,e,t2,H2,h4,st,px,Aj,Ab,zu,b3,h5,h6⟩:=V.cv h3;have a1:=cY (E:=E) (Nat.le_max_left n m) _ _ _ _ h1;have a2:=cY (E:=E) (Nat.le_max_right n m) _ _ _ _ h4;cases e with
 |normal=>
  refine⟨_,_,vH ⟨max n m,?_⟩,h6⟩;unfold lL;simp only[hl,hs,a1,h2,a2,h5]
 |ret=>
  refine⟨_,_,vH ⟨max n m,?_⟩,h6⟩;unfold lL;simp only[hl,hs,a1,h2,a2,h5]
 |exit id=>
  refine⟨_,_,vH ⟨max n m,?_⟩,h6⟩;unfold lL;simp only[hl,hs,a1,h2,a2,h5]
section
variable{E:Env}{ts:List AV}{H:Hp}{Q:Ex->List AV->Hp->Prop}
def Cv.avE{a b:Code}(h:Cv E a ts H (sS (fun ts H=>V E b ts H Q) Q)):Cv E (.seq a b) ts H Q:=by
 refine Cv.seq (Cv.mono h ?_);intro ex ts' H' k;cases ex with
 |normal=>exact V.cv k
 |ret=>exact k
 |exit id=>exact k
def Cv.ah9{id:Nat}{a:Code}(h:Cv E a ts H (lX id Q)):Cv E (.block id a) ts H Q:=by
 refine Cv.block (Cv.mono h ?_);intro ex ts' H' k;cases ex<;>exact k
def Cv.ahZ{a b c:Code}(h:Cv E (.seq (.seq a b) c) ts H Q):Cv E (.seq a (.seq b c)) ts H Q:=by
 obtain⟨n,ex,ts',H',h1,h2⟩:=h;cases n with
 |zero=>cases h1
 |succ m=>
  refine⟨m+2,ex,ts',H',?_,h2⟩;have e1:cL E (bS E m) (.seq (.seq a b) c) ts H=some (ex,ts',H'):=h1;show cL E (bS E (m+1)) (.seq a (.seq b c)) ts H=some (ex,ts',H')
  cases m with
  |zero=>cases e1
  |succ p=>
   have e2:∀t h,bS E (p+1) (.seq a b) t h=cL E (bS E p) (.seq a b) t h:=fun _ _=>rfl
   have e3:∀t h,bS E (p+1+1) (.seq b c) t h=cL E (bS E (p+1)) (.seq b c) t h:=fun _ _=>rfl
   simp only[cL]at e1⊢;rw[e2]at e1;simp only[cL]at e1;cases ha:bS E p a ts H with
   |none=>rw[ha]at e1;cases e1
   |some x=>
    obtain⟨ea,ta,Ha⟩:=x;have ha':=cY (E:=E) (show p<=p+1+1 by omega) _ _ _ _ ha;rw[ha]at e1;rw[ha'];cases ea with
    |ret=>exact e1
    |exit id=>exact e1
    |normal=>
     simp only at e1⊢;rw[e3];simp only[cL];cases hb:bS E p b ta Ha with
     |none=>rw[hb]at e1;cases e1
     |some y=>
      obtain⟨eb,tb,Hb⟩:=y;have Ss:=cY (E:=E) (show p<=p+1 by omega) _ _ _ _ hb;rw[hb]at e1;rw[Ss];cases eb<;>exact e1
class axi where
 J:List AV->Hp->Prop
def Po(ts:List AV)(H:Hp) [b:axi]:Prop:=b.J ts H
def iW{J:List AV->Hp->Prop}{ts:List AV}{H:Hp}(h:J ts H):@Po ts H ⟨J⟩:=h
def Cv.cut{a:Code}{K:List AV->Hp->Prop}(J:List AV->Hp->Prop)(h:Cv E a ts H (sS (fun ts H=>@Po ts H ⟨J⟩) Q))(hn:∀ts H,J ts H->K (S ts []) H):Cv E a ts H (sS K Q):=by
 refine Cv.mono h ?_;intro ex ts' H' k;cases ex with
 |normal=>exact hn _ _ k
 |ret=>exact k
 |exit id=>exact k
def auD{body:Code}(I:Nat->List AV->Hp->Prop)(k:Nat)(yo:∀k ts H,I k ts H->Cv E body ts H (sQ I k Q))(h:I k ts H):@CvB E (.loop body) ts H ⟨Q⟩:=by
 show Cv E (.loop body) ts H Q
 refine Cv.loop I ?_ k ts H h;intro k ts H hi;refine(yo k ts H hi).mono ?_;intro ex ts' H' q;cases ex<;>exact q
def CvS{c:Code}(h:Cv E c (S ts []) H Q):Cv E c ts H Q:=h
def AI{body:Code}{id:Nat}(I:Nat->List AV->Hp->Prop)(J:List AV->Hp->Prop)(k:Nat)
  (yo:∀k ts H,I k ts H->V E body ts H (sQ I k (fun ex ts H=>ex=.exit id/\@Po ts H ⟨J⟩))) (FE:∀ts H,J ts H->Q (.exit id) (S ts []) H) (h:I k ts H):@CvB E (.loop body) ts H ⟨Q⟩:=by
 have h1:=cC (Q:=fun ex ts H=>ex=.exit id/\@Po ts H ⟨J⟩) I k yo h;show Cv E (.loop body) ts H Q
 refine Cv.mono (show Cv E (.loop body) ts H _ from h1) ?_;rintro ex ts' H' ⟨rfl,hj⟩;exact FE _ _ hj
end
end Dv
namespace Go.Proofs.YtmkjgfnicfpjpaaGreatDoor
open Go Dv
variable{E:Env}[C:Ctx E]
structure qX(k:Nat)(row:Nat->List AV):Prop where
 len:∀p,(row p).length=k
 one:∀p,(row p).all cN=true
 pure:∀p,aV (row p)=true
def SR(H:Hp)(b:Nat)(row:Nat->List AV)(js:List Nat):Prop:=H[b]?=some (.cells .live (js.map row).flatten)
structure HW(b:Nat)(H H':Hp):Prop where
 le:H.length<=H'.length
 get:∀c,c<H.length->c≠b->H'[c]?=H[c]?
def HW.refl(b:Nat)(H:Hp):HW b H H:=⟨aLt _,fun _ _ _=>rfl⟩
def HW.trans{b:Nat}{H H1 H2:Hp}(h:HW b H H1)(k:HW b H1 H2):HW b H H2:=
 ⟨aNW h.le k.le,fun c hc hb=>(k.get c (aN0 hc h.le) hb).trans (h.get c hc hb)⟩
def HW.put{b:Nat}{H:Hp}{x:cE}(hb:b<H.length):HW b H (cO H b x):=by unfold cO;rw[if_pos hb];refine⟨by rw[List.length_set];exact aLt _,fun c hc ej=>?_⟩;rw[aOj (Ne.symm ej)]
def SR.lt{H:Hp}{b:Nat}{row:Nat->List AV}{js:List Nat}(h:SR H b row js):b<H.length:=(aLq.1 h).1
section
variable{k b n:Nat}{row:Nat->List AV}{js:List Nat}{H:Hp}(R:qX k row)
include R
def qX.lens(js:List Nat):∀r∈js.map row,r.length=k:=by intro r hr;obtain⟨p,_,rfl⟩:=List.mem_map.1 hr;exact R.len p
def SR.ld(h:SR H b row js){j p:Nat}(hj:js[j]?=some p):fE k H b (j*k)=some (.agg (row p)):=by have eh:=(aLq.1 hj).1;have h2:=iM (R.lens js) (j:=j) (by simpa using eh);rw[dY,h];simp only;rw[if_pos h2,jC (R.lens js) (r:=row p) (by simp[hj]),if_neg (by decide)]
def SR.st(h:SR H b row js){j p:Nat}(hj:j<js.length):iZ k (row p) H b (j*k)=some (.cells .live ((js.set j p).map row).flatten):=by
 have h2:=iM (R.lens js) (j:=j) (by simpa using hj);rw[eT,h];simp only;rw[if_pos (by rw[R.len,R.one];simpa using h2),Je (R.lens js) (by simpa using hj) (R.len p)]
 simp
omit R in
def SR.put(h:SR H b row js){js':List Nat}:SR (cO H b (.cells .live (js'.map row).flatten)) b row js':=by unfold SR cO;rw[if_pos h.lt,List.getElem?_set_self h.lt]
omit R in
def SR.ue(hp:js.Perm (aOR n)):js.length=n:=by rw[hp.length_eq,List.length_range]
def FX(h:SR H b row js)(hp:js.Perm (aOR n)){i:Nat}(hi:i<n):js.getD i 0<n/\fE k H b (i*k)=some (.agg (row (js.getD i 0))):=by
 have hl:js.length=n:=SR.ue hp;have sB:i<js.length:=by omega
 rw[aT1,aL6 sB,aNk];exact⟨List.mem_range.1 (hp.mem_iff.1 (aMg sB)),h.ld R (aL6 sB)⟩
def kZ(h:SR H b row js)(hp:js.Perm (aOR n)){i j:Nat}(hi:i<n)(hj:j<n):
  ∃F1 F2 H3 js',js.getD i 0<n/\js.getD j 0<n/\fE k H b (i*k)=some (.agg (row (js.getD i 0)))/\fE k H b (j*k)=some (.agg (row (js.getD j 0)))/\
   iZ k (row (js.getD j 0)) H b (i*k)=some (.cells .live F1)/\iZ k (row (js.getD i 0)) (cO H b (.cells .live F1)) b (j*k)=some (.cells .live F2)/\
   cO (cO H b (.cells .live F1)) b (.cells .live F2)=H3/\SR H3 b row js'/\HW b H H3/\js'.Perm (aOR n):=by
 have hl:js.length=n:=SR.ue hp;have sB:i<js.length:=by omega
 have hj':j<js.length:=by omega
 have m:∀x∈js,x<n:=fun x hx=>List.mem_range.1 (hp.mem_iff.1 hx)
 have s1:=h.put (js':=js.set i js[j]);have e1:js.getD i 0=js[i]:=by rw[aT1,aL6 sB,aNk]
 have e2:js.getD j 0=js[j]:=by rw[aT1,aL6 hj',aNk]
 rw[e1,e2];exact⟨_,_,_,_,m _ (aMg sB),m _ (aMg hj'),h.ld R (aL6 sB),h.ld R (aL6 hj'),h.st R sB,
  s1.st R (by simpa using hj'),rfl,s1.put,(HW.put h.lt).trans (HW.put s1.lt),(swap_perm sB hj').trans hp⟩
def qX.pr(p:Nat):aU (.agg (row p))=true:=by unfold aU;exact R.pure p
end
def gi5{E:Env}{f:Nat}{code:Code}{nt:Nat}{results:List ResultVar}{pu du:Bool}{a b c e d:AV}{H:Hp}{G:AV->Hp->Prop}(kh:E.rH f [a,b,c,e,d] H=none)(fC:E.fn f=some {code:=code,ntmps:=nt,results:=results,pure:=pu,eD:=du})(hn:5<=nt)
  (h:∀ts:List AV,ts.length=nt->gt ts 0=a->gt ts 1=b->gt ts 2=c->gt ts 3=e->gt ts 4=d->V E code (S ts []) H (o6 E results G)):∃r H',cV E f [a,b,c,e,d] H=some (r,H')/\G r H':=
 CD kh fC (h _ (by simp;omega) rfl rfl rfl rfl rfl)
def gi6{E:Env}{f:Nat}{code:Code}{nt:Nat}{results:List ResultVar}{pu du:Bool}{a b c e d x:AV}{H:Hp}{G:AV->Hp->Prop}(kh:E.rH f [a,b,c,e,d,x] H=none)(fC:E.fn f=some {code:=code,ntmps:=nt,results:=results,pure:=pu,eD:=du})(hn:6<=nt)
  (h:∀ts:List AV,ts.length=nt->gt ts 0=a->gt ts 1=b->gt ts 2=c->gt ts 3=e->gt ts 4=d->gt ts 5=x->V E code (S ts []) H (o6 E results G)):∃r H',cV E f [a,b,c,e,d,x] H=some (r,H')/\G r H':=
 CD kh fC (h _ (by simp;omega) rfl rfl rfl rfl rfl rfl)
structure BX(L:Nat)(H H':Hp):Prop where
 le:H'.length=H.length
 get:∀c,c≠L->H'[c]?=H[c]?
 box:∃z,H'[L]?=some (.cells .live [.int .i64 z])
def BX.sr{L b:Nat}{H H':Hp}{row:Nat->List AV}{js:List Nat}(h:BX L H H')(hb:b≠L)(hS:SR H b row js):SR H' b row js:=by unfold SR;rw[h.get b hb];exact hS
def BX.trans{L:Nat}{H H1 H2:Hp}(h:BX L H H1)(k:BX L H1 H2):BX L H H2:=⟨k.le.trans h.le,fun c hc=>(k.get c hc).trans (h.get c hc),k.box⟩
def BX.refl{L:Nat}{H:Hp}{z:Int}(h:H[L]?=some (.cells .live [.int .i64 z])):BX L H H:=⟨rfl,fun _ _=>rfl,z,h⟩
def wz{z:Int}{m:Nat}(h:z=m:=by omega)(hm:m<9223372036854775808:=by omega):aW .i64 z=((m:Nat):Int):=by subst h;exact wrap_i64
def aeo{E:Env}{c:Bool}{t a d:Nat}(hd:d≠0:=by omega)(ha:a<9223372036854775808:=by omega):cp E c .quo t (.int .i64 (a:Int)) (.int .i64 (d:Int))=some (.int .i64 ((a/d:Nat):Int)):=by rw[GD hd,wz rfl (Nat.lt_of_le_of_lt (Nat.div_le_self _ _) ha)]
def eP{i n:Nat}(h:i<n:=by omega):((i:Int)<(n:Int))=True:=eq_true (by omega)
def pY(b n:Nat)(row:Nat->List AV)(H:Hp)(r:AV)(H':Hp):Prop:=r=.tuple []/\HW b H H'/\∃js',SR H' b row js'/\js'.Perm (aOR n)
def pZ(p:I3):List AV:=[.int .i64 p.x,.int .i64 p.y,.int .i64 p.z]
def v3(p:I3):AV:=.agg [.int .i64 p.x,.int .i64 p.y,.int .i64 p.z]
def B3(k:Int)(p:I3):Prop:=(-k<=p.x/\p.x<=k)/\(-k<=p.y/\p.y<=k)/\(-k<=p.z/\p.z<=k)
def B3.mono{k l:Int}{p:I3}(h:B3 k p)(hl:k<=l):B3 l p:=⟨⟨by have:=h.1;omega,by have:=h.1;omega⟩,⟨by have:=h.2.1;omega,by have:=h.2.1;omega⟩,⟨by have:=h.2.2;omega,by have:=h.2.2;omega⟩⟩
def wV{a b A B:Int}(ha: -A<=a/\a<=A)(hb: -B<=b/\b<=B): -(A*B)<=a*b/\a*b<=A*B:=by
 have h1:=aT3 (show 0<=A-a by omega) (show 0<=B-b by omega);have h2:=aT3 (show 0<=A+a by omega) (show 0<=B+b by omega);have h3:=aT3 (show 0<=A-a by omega) (show 0<=B+b by omega);have h4:=aT3 (show 0<=A+a by omega) (show 0<=B-b by omega);constructor<;>grind
def B3.sub{k l:Int}{a b:I3}(h:B3 k a)(h':B3 l b):B3 (k+l) (I3.sb a b):=by
 obtain⟨h1,h2,h3⟩:=h;obtain⟨k1,k2,k3⟩:=h'
 refine⟨⟨?_,?_⟩,⟨?_,?_⟩,⟨?_,?_⟩⟩<;>simp only[I3.sb]<;>omega
def B3.Wg{a b:I3}(h:B3 8192 a)(h':B3 8192 b):B3 134217728 (I3.cr a b):=by
 obtain⟨h1,h2,h3⟩:=h;obtain⟨k1,k2,k3⟩:=h'
 have m1:=wV h2 k3;have m2:=wV h3 k2;have m3:=wV h3 k1;have m4:=wV h1 k3;have m5:=wV h1 k2;have m6:=wV h2 k1
 refine⟨⟨?_,?_⟩,⟨?_,?_⟩,⟨?_,?_⟩⟩<;>simp only[I3.cr]<;>omega
def wi{z:Int}(h1: -9223372036854775808<=z)(h2:z<9223372036854775808):aW .i64 z=z:=wrap_i64 h1
def ae9(p:I3):aU (v3 p)=true:=by simp[v3,aU,aV]
def j7{a b:I3}{k l:Int}(h:B3 k a)(h':B3 l b)(hk:k+l<=1000000000000:=by omega):aP E 203 [v3 a,v3 b]=some (v3 (I3.sb a b)):=by
 suffices hh:∃r,aP E 203 [v3 a,v3 b]=some r/\r=v3 (I3.sb a b)by obtain⟨r,h1,rfl⟩:=hh;exact h1
 obtain⟨⟨_,_⟩,⟨_,_⟩,⟨_,_⟩⟩:=h.sub h';have w1:aW .i64 (a.x-b.x)=(I3.sb a b).x:=by rw[wi]<;>simp only[I3.sb]at* <;>omega
 have w2:aW .i64 (a.y-b.y)=(I3.sb a b).y:=by rw[wi]<;>simp only[I3.sb]at* <;>omega
 have w3:aW .i64 (a.z-b.z)=(I3.sb a b).z:=by rw[wi]<;>simp only[I3.sb]at* <;>omega
 refine oA arC ?_;intro ts hl g0 g1;unfold apc;unfold v3 at g0 g1;simp only[↓aL,aM,aJ,↓reduceIte,aa,ah,ae,an,aq,ar,Tryz.f203,ai,hl,g0,g1,w1,w2,w3];rfl
def tf{a b:I3}(h:B3 8192 a)(h':B3 8192 b):aP E 202 [v3 a,v3 b]=some (v3 (I3.cr a b)):=by
 suffices hh:∃r,aP E 202 [v3 a,v3 b]=some r/\r=v3 (I3.cr a b)by obtain⟨r,h1,rfl⟩:=hh;exact h1
 obtain⟨h1,h2,h3⟩:=h;obtain⟨k1,k2,k3⟩:=h'
 have m1:=wV h2 k3;have m2:=wV h3 k2;have m3:=wV h3 k1;have m4:=wV h1 k3;have m5:=wV h1 k2;have m6:=wV h2 k1
 have w1:=wi (z:=a.y*b.z) (by omega) (by omega);have w2:=wi (z:=a.z*b.y) (by omega) (by omega);have w3:=wi (z:=a.z*b.x) (by omega) (by omega);have w4:=wi (z:=a.x*b.z) (by omega) (by omega);have w5:=wi (z:=a.x*b.y) (by omega) (by omega);have w6:=wi (z:=a.y*b.x) (by omega) (by omega);have w7:=wi (z:=a.y*b.z-a.z*b.y) (by omega) (by omega);have w8:=wi (z:=a.z*b.x-a.x*b.z) (by omega) (by omega);have w9:=wi (z:=a.x*b.y-a.y*b.x) (by omega) (by omega);refine oA arB ?_;intro ts hl g0 g1;unfold apb;unfold v3 at g0 g1;simp only[↓aL,aM,aJ,↓reduceIte,aa,ah,ae,an,aq,ar,Tryz.f202,ai,hl,g0,g1,w1,w2,w3,w4,w5,w6,w7,w8,w9];rfl
def qz{a b:I3}(h:B3 134217728 a)(h':B3 134217728 b):aP E 206 [v3 a,v3 b]=some (.int .i64 (I3.dt a b)):=by
 suffices hh:∃r,aP E 206 [v3 a,v3 b]=some r/\r=.int .i64 (I3.dt a b)by obtain⟨r,h1,rfl⟩:=hh;exact h1
 obtain⟨h1,h2,h3⟩:=h;obtain⟨k1,k2,k3⟩:=h'
 have m1:=wV h1 k1;have m2:=wV h2 k2;have m3:=wV h3 k3
 have w1:=wi (z:=a.x*b.x) (by omega) (by omega);have w2:=wi (z:=a.y*b.y) (by omega) (by omega);have w3:=wi (z:=a.z*b.z) (by omega) (by omega);have w4:=wi (z:=a.x*b.x+a.y*b.y) (by omega) (by omega);have w5:=wi (z:=a.x*b.x+a.y*b.y+a.z*b.z) (by omega) (by omega);refine oA arF ?_;intro ts hl g0 g1;unfold apf;unfold v3 at g0 g1;simp only[↓aL,aM,aJ,↓reduceIte,aa,ae,an,aq,ar,Tryz.f206,hl,g0,g1,w1,w2,w3,w4,w5];rfl
def oZ(bG:List I3):List AV:=(bG.map pZ).flatten
def kO(bG:List I3):AV:=.aK (oZ bG) bG.length
def eU(bG:List I3)(i:Nat):I3:=bG.getD i I3.zr
def KO(bG:List I3):∀r∈bG.map pZ,r.length=3:=by intro r hr;obtain⟨p,_,rfl⟩:=List.mem_map.1 hr;rfl
def lU{bG:List I3}{i:Nat}(h:i<bG.length:=by omega):eW true 3 (oZ bG) (i*3)=some (v3 (eU bG i)):=by
 have h1:(bG.map pZ)[i]?=some (pZ (eU bG i)):=by
  rw[aM4,aL6 h];unfold eU
  rw[aT1,aL6 h];rfl
 have h2:=jC (KO bG) h1;have h3:=iM (KO bG) (j:=i) (by simpa using h);unfold oZ;rw[jd (s:=3) h3,h2];rfl
def ud(bG:List I3):aV (oZ bG)=true:=by
 unfold oZ;induction bG with
 |nil=>rfl
 |cons p l ih=>rw[aM5,List.flatten_cons];simp[pZ,aV,aU,ih]
def Gj(bG:List I3):aU (kO bG)=true:=by simp[kO,aU]
def UO(bG:List I3):Prop:=∀p∈bG,B3 4096 p
def UO.at{bG:List I3}(h:UO bG)(i:Nat):B3 4096 (eU bG i):=by
 unfold eU;rw[aT1];rcases Nat.lt_or_ge i bG.length with hi|hi
 ·rw[aL6 hi];exact h _ (aMg hi)
 ·rw[List.getElem?_eq_none hi];exact⟨⟨by decide,by decide⟩,⟨by decide,by decide⟩,⟨by decide,by decide⟩⟩
def ET(f:Nat->Bool):Nat->Nat
 |0=>0
 |m+1=>ET f m+(if f m then 2^m else 0)
def Du(f:Nat->Bool):∀m,ET f m<2^m
 |0=>Nat.one_pos
 |m+1=>by
  have:=Du f m
  rw[ET,Nat.pow_succ];split<;>omega
def alH{a m:Nat}(h:a<2^m):a|||2^m=a+2^m:=by
 have:=Nat.two_pow_add_eq_or_of_lt h 1
 rw[Nat.mul_one]at this;rw[Nat.or_comm,<-this,Nat.add_comm]
def PG{E:Env}{c:Bool}{t m:Nat}{k:IntKind}(h:m<64:=by omega):cp E c .shl t (.int .u64 1) (.int k (m:Int))=some (.int .u64 ((2^m:Nat):Int)):=by
 have:=xW (E:=E) (c:=c) (t:=t) (k:=.u64) (k':=k) (a:=1) (n:=m) (by have:IntKind.u64.bits=64:=rfl;omega)
 rw[Nat.one_mul,wrap_u64 (aN0 (aUd (by omega) h) (aLt _))]at this;exact this
def PC{c:Bool}{a b:I3}:cp E c .eql 89 (v3 a) (v3 b)=some (.bool (decide (a=b))):=by
 have h:=Jz (E:=E) (c:=c) (t:=89) (n:=3) (Cx C) (Ba C) (xs:=[a.x,a.y,a.z]) (ys:=[b.x,b.y,b.z]) rfl rfl;have e:([a.x,a.y,a.z]=[b.x,b.y,b.z])=(a=b):=by
  obtain⟨a1,a2,a3⟩:=a;obtain⟨b1,b2,b3⟩:=b;simp
 rw[show v3 a=.agg (iA [a.x,a.y,a.z])from rfl,show v3 b=.agg (iA [b.x,b.y,b.z])from rfl,h];simp only[e]
def BK(E:Env)(t:Nat):Bool:=match E.ty t with
 |some i=>(match i.cD with|.bool=>true|_=>false)
 |none=>false
def IM{c a b:Bool}:cp E c .neq 4 (.bool a) (.bool b)=some (.bool (a !=b)):=by
 have h:BK E 4=true:=by
  have h0:BK E0 4=true:=by kernel_rfl
  unfold BK at h0⊢;rw[C.ty];exact h0
 unfold BK at h;cases hi:E.ty 4 with
 |none=>rw[hi]at h;cases h
 |some i=>
  rw[hi]at h;obtain⟨cD,jA,jS,jB,jZ,dK⟩:=i;cases cD<;>first|(cases h;done)|skip
  have e1:nP E 20 4 (.bool a) (.bool b)=some (a==b):=by unfold nP;simp only[hi]
  simp[cp,cp.sa,e1,bne]
structure UR(bG:List I3)(N:I3)(on:Nat):Prop where
 nz:N≠I3.zr
 bN:B3 134217728 N
 ex:∃i j,j<i/\i<bG.length/\on=ET (fun q=>decide (I3.dt N (I3.sb (eU bG q) (eU bG i))=0)) bG.length/\I3.dt N (I3.sb (eU bG j) (eU bG i))=0
def TO{bG:List I3}(hR:UO bG)(hn:bG.length<=60){i j k:Nat}(hj:j<i)(hk:k<j)(hi:i<bG.length):
  ∃r,aP E 207 [kO bG,.int .i64 (i:Int),.int .i64 (j:Int),.int .i64 (k:Int)]=some r/\∃N on bb,r=.tuple [.agg [.int .i64 N.x,.int .i64 N.y,.int .i64 N.z,.int .u64 ((on:Nat):Int)],.bool bb]/\on<2^bG.length/\(bb=true->UR bG N on):=by
 have pi:=lU (bG:=bG) (i:=i) hi;have pj:=lU (bG:=bG) (i:=j);have pk:=lU (bG:=bG) (i:=k);have ci:=eP (i:=i) (n:=bG.length) hi;have cj:=eP (i:=j) (n:=bG.length);have ckk:=eP (i:=k) (n:=bG.length);have s1:=j7 (E:=E) (hR.at j) (hR.at i);have s2:=j7 (E:=E) (hR.at k) (hR.at i);have x1:=tf (E:=E) ((hR.at j).sub (hR.at i)) ((hR.at k).sub (hR.at i));have bN:=((hR.at j).sub (hR.at i)).Wg ((hR.at k).sub (hR.at i));generalize hN:I3.cr (I3.sb (eU bG j) (eU bG i)) (I3.sb (eU bG k) (eU bG i))=N at x1 bN;have hq:∀{c:Bool},cp E c .eql 89 (.agg [.int .i64 N.x,.int .i64 N.y,.int .i64 N.z]) (.agg [.int .i64 0,.int .i64 0,.int .i64 0])=some (.bool (decide (N=I3.zr))):=fun{c}=>PC (E:=E) (c:=c) (a:=N) (b:=I3.zr)
 simp only[v3]at s1 s2 x1 pi pj pk;have pp:=Gj bG;refine gw4 arG ?_;intro ts hl g0 g1 g2 g3;unfold apg;unfold kO at g0;by_cases h0:N=I3.zr
 ·rw[bj h0]at hq;simp only[↓aL,aM,↓aS,aJ,↓reduceIte,aa,ah,ae,Tryz.f207,hl,g0,g1,g2,g3,pi,pj,pk,ci,cj,ckk,s1,s2,x1,hq,eL];exact⟨⟨0,0,0⟩,0,false,rfl,Nat.pow_pos (by omega),fun h=>by cases h⟩
 rw[bh h0]at hq;simp only[↓aL,aM,↓aS,aJ,↓reduceIte,aa,ah,ae,Tryz.f207,ai,hl,g0,g1,g2,g3,pi,pj,pk,ci,cj,ckk,s1,s2,x1,hq,eL];refine cC (fun k_ ts H=>∃m:Nat,∃less:Bool,∃more:Bool,∃T,k_=(bG.length-m:Nat)/\ts.length=79/\gt ts 0=.aK (oZ bG) bG.length/\gt ts 1=.int .i64 (i:Int)/\gt ts 8=.bK 0 0/\gt ts 10=.bK 1 0/\gt ts 11=.bK 2 0/\gt ts 12=.bool less/\gt ts 13=.bool more/\gt ts 42=.aK (oZ bG) bG.length/\gt ts 43=.int .i64 (bG.length:Int)/\gt ts 44=.int .i64 (m:Int)/\H=.cells .live [.int .i64 0,.int .i64 0,.int .i64 0,.int .u64 0]:: .cells .live [.int .i64 N.x,.int .i64 N.y,.int .i64 N.z]:: .cells .live [.int .i64 N.x,.int .i64 N.y,.int .i64 N.z,.int .u64 ((ET (fun q=>decide (I3.dt N (I3.sb (eU bG q) (eU bG i))=0)) m:Nat):Int)]::T/\(m<=bG.length)) (bG.length) ?_ ?_
 rotate_left
 ·refine⟨0,false,false,[],(by first|omega|rfl|simp),(by simp[bc,hl]),?_⟩;simp only[aY,hl,aa,ae,g0,g1]
  iterate 11 refine cI ?_
  ·first|omega|trivial
 clear hl g0 g1 g2 g3 ts;rintro k_ ts H ⟨m,less,more,T,rfl,hl,g0,g1,g8,g10,g11,g12,g13,g42,Ez,Bc,rfl,hm⟩;refine VS ?_;generalize hf:(fun q=>decide (I3.dt N (I3.sb (eU bG q) (eU bG i))=0))=f at*;have hon:=Du f m;by_cases hd:m<bG.length
 ·have d1:decide ((m:Int)<(bG.length:Int))=true:=bj;have cm:=eP (i:=m) (n:=bG.length) hd;have pm:=lU (bG:=bG) (i:=m) hd;have s3:=j7 (E:=E) (hR.at m) (hR.at i);have d3:=qz (E:=E) bN (((hR.at m).sub (hR.at i)).mono (by omega));have w1:=wz (z:=(m:Int)+1) (m:=m+1);have hfm:f m=decide (I3.dt N (I3.sb (eU bG m) (eU bG i))=0):=by rw[<-hf]
  simp only[v3]at s3 d3 pm;generalize I3.dt N (I3.sb (eU bG m) (eU bG i))=D at d3 hfm;have se:=fun{c:Bool} {t:Nat}=>PG (E:=E) (c:=c) (t:=t) (k:=.i64) (m:=m)
  have G2:2^m<2^60:=aUd (by omega) (by omega);have hor:=fun{c:Bool} {t:Nat}=>xU (E:=E) (c:=c) (t:=t) (a:=ET f m) (b:=2^m)
  by_cases hD:D<0
  ·have b1:decide (D<0)=true:=bj hD;simp only[↓aL,aM,↓aS,aJ,ct,↓reduceIte,aa,ah,ae,hl,g0,g1,g10,g42,Ez,Bc,cm,pm,pi,ci,s3,d3,w1,b1,aLU];rw[show ET f m=ET f (m+1)by rw[ET,hfm];simp;omega];refine bI ?_;refine⟨_,?_,m+1,true,more,(T++[.cells .live [.int .i64 (eU bG m).x,.int .i64 (eU bG m).y,.int .i64 (eU bG m).z]]),rfl,(by simp[bc,hl]),?_⟩
   ·first|omega|(simp;omega)
   simp only[aY,hl,aa,ae,g0,g1,g8,g10,g11,g13,g42,Ez]
   iterate 11 refine cI ?_
   ·omega
  have b1:decide (D<0)=false:=bh hD;by_cases hD2:0<D
  ·have b2:decide (D>0)=true:=bj hD2;simp only[↓aL,aM,↓aS,aJ,ct,↓reduceIte,aa,ah,ae,hl,g0,g1,g10,g42,Ez,Bc,cm,pm,pi,ci,s3,d3,w1,b1,b2,aLU];rw[show ET f m=ET f (m+1)by rw[ET,hfm];simp;omega];refine bI ?_;refine⟨_,?_,m+1,less,true,(T++[.cells .live [.int .i64 (eU bG m).x,.int .i64 (eU bG m).y,.int .i64 (eU bG m).z]]),rfl,(by simp[bc,hl]),?_⟩
   ·first|omega|(simp;omega)
   simp only[aY,hl,aa,ae,g0,g1,g8,g10,g11,g12,g42,Ez]
   iterate 11 refine cI ?_
   ·omega
  have b2:decide (D>0)=false:=bh hD2;simp only[↓aL,aM,↓aS,aJ,ct,↓reduceIte,aa,ah,ae,hl,g0,g1,g10,g11,g42,Ez,Bc,cm,pm,pi,ci,s3,d3,w1,b1,b2,se,hor,aLU,aL9];rw[show ET f m|||2^m=ET f (m+1)by rw[alH hon,ET,hfm];have:D=0:=(by omega);simp[this]];refine bI ?_;refine⟨_,?_,m+1,less,more,(T++[.cells .live [.int .i64 (eU bG m).x,.int .i64 (eU bG m).y,.int .i64 (eU bG m).z]]),rfl,(by simp[bc,hl]),?_⟩
  ·first|omega|(simp;omega)
  simp only[aY,hl,aa,ae,g0,g1,g8,g10,g11,g12,g13,g42,Ez]
  iterate 11 refine cI ?_
  ·omega
 have d1:decide ((m:Int)<(bG.length:Int))=false:=bh (by omega);obtain rfl:m=bG.length:=by omega
 have Sp:I3.dt N (I3.sb (eU bG j) (eU bG i))=0:=by
  rw[<-hN];generalize I3.sb (eU bG j) (eU bG i)=u;generalize I3.sb (eU bG k) (eU bG i)=w
  obtain⟨a1,a2,a3⟩:=u;obtain⟨c1,c2,c3⟩:=w
  simp only[I3.dt,I3.cr];grind
 have bq:=fun{c a b:Bool}=>IM (E:=E) (c:=c) (a:=a) (b:=b)
 cases more
 ·simp only[↓aL,aM,aJ,↓reduceIte,aa,ah,ae,pI bo4,hl,g8,g11,g12,g13,Ez,Bc,d1];exact⟨N,_,_,rfl,Du _ _,fun _=>⟨h0,bN,i,j,hj,hi,by rw[hf],Sp⟩⟩
 ·have s4:=j7 (E:=E) (a:=I3.zr) (b:=N) (k:=0) ⟨⟨by decide,by decide⟩,⟨by decide,by decide⟩,⟨by decide,by decide⟩⟩ bN;simp only[v3,I3.zr]at s4;simp only[↓aL,aM,↓aS,aJ,↓reduceIte,aa,ah,ae,pI bo4,ai,hl,g8,g10,g11,g12,g13,Ez,Bc,d1,s4];have o9:∀v,I3.dt (I3.sb I3.zr N) v= -I3.dt N v:=by
   intro v;obtain⟨a1,a2,a3⟩:=N;obtain⟨c1,c2,c3⟩:=v
   simp only[I3.dt,I3.sb,I3.zr];grind
  refine⟨I3.sb I3.zr N,_,_,rfl,Du _ _,fun _=>⟨?_,?_,i,j,hj,hi,?_,?_⟩⟩
  ·intro e;apply h0
   obtain⟨a1,a2,a3⟩:=N;simp only[I3.sb,I3.zr,I3.mk.injEq]at e⊢;omega
  ·obtain⟨⟨_,_⟩,⟨_,_⟩,⟨_,_⟩⟩:=bN;refine⟨⟨?_,?_⟩,⟨?_,?_⟩,⟨?_,?_⟩⟩<;>simp only[I3.sb,I3.zr]<;>omega
  ·rw[<-hf];congr 1;funext q;rw[o9];congr 1;apply propext;omega
  ·rw[o9,Sp];rfl
def Et(a b:Int):Int:=if a<b then-1 else if b<a then 1 else 0
def Da{a:Int}:aP E 213 [.int .i64 a]=some (.bool false):=by
 suffices hh:∃r,aP E 213 [.int .i64 a]=some r/\r=.bool false by obtain⟨r,h1,rfl⟩:=hh;exact h1
 have hb:(a !=a)=false:=by simp
 refine nY arJ ?_;intro ts hl g0;unfold apj;simp only[↓aL,aM,aa,ae,Tryz.f213,hl,g0,hb]
def Ck{a b:Int}:aP E 171 [.int .i64 a,.int .i64 b]=some (.int .i64 (Et a b)):=by
 suffices hh:∃r,aP E 171 [.int .i64 a,.int .i64 b]=some r/\r=.int .i64 (Et a b)by obtain⟨r,h1,rfl⟩:=hh;exact h1
 have n1:=Da (E:=E) (a:=a);have n2:=Da (E:=E) (a:=b);refine oA ark ?_;intro ts hl g0 g1;unfold aoQ;unfold Et;by_cases h1:a<b
 ·have d1:decide (a<b)=true:=bj h1;simp only[↓aL,aM,↓aS,aJ,aa,ae,Tryz.f171,aB,hl,g0,g1,n1,n2,d1];rw[if_pos h1]
 have d1:decide (a<b)=false:=bh h1;by_cases h2:b<a
 ·have d2:decide (a>b)=true:=bj h2;simp only[↓aL,aM,↓aS,aJ,aa,ae,Tryz.f171,aB,hl,g0,g1,n1,n2,d1,d2];rw[if_neg h1,if_pos h2]
 ·have d2:decide (a>b)=false:=bh h2;simp only[↓aL,aM,↓aS,aJ,aa,ae,Tryz.f171,aB,hl,g0,g1,n1,n2,d1,d2];rw[if_neg h1,if_neg h2]
def iL(xs:List Int):List AV:=xs.map (.int .i64)
def XS{xs:List Int}{i:Nat}(h:i<xs.length):eW false 1 (iL xs) i=some (.int .i64 (xs.getD i 0)):=by
 rw[gI];unfold iL
 rw[aM4,aL6 h,aT1,aL6 h];rfl
def yr(xs:List Int):aV (iL xs)=true:=by
 unfold iL;induction xs with
 |nil=>rfl
 |cons x l ih=>simp[aV,aU,ih]
def LxI(xs ys:List Int):Prop:=xs.length<ys.length∨∃i,i<xs.length/\(∀j,j<i->xs.getD j 0=ys.getD j 0)/\xs.getD i 0<ys.getD i 0
def Wd{a b:Int}(h:Et a b<0):a<b:=by
 unfold Et at h;split at h
 ·assumption
 ·split at h<;>omega
def R7{a b:Int}(h:Et a b=0):a=b:=by
 unfold Et at h;split at h
 ·omega
 ·split at h<;>omega
def Gp{xs ys:List Int}(hx:xs.length<=1000000)(hy:ys.length<=1000000):
  ∃r,aP E 163 [.aK (iL xs) xs.length,.aK (iL ys) ys.length]=some r/\∃z:Int,r=.int .i64 z/\(z<0->LxI xs ys):=by
 have p1:=yr xs;have p2:=yr ys;refine oA arc ?_;intro ts hl g0 g1;unfold aoJ;simp only[↓aL,aM,aJ,aa,ae,Tryz.f163,aB,hl,g0];refine cC (fun k_ ts H=>∃i:Nat,k_=(xs.length-i:Nat)/\ts.length=36/\gt ts 0=.aK (iL xs) xs.length/\gt ts 1=.aK (iL ys) ys.length/\gt ts 9=.aK (iL xs) xs.length/\gt ts 10=.int .i64 (xs.length:Int)/\gt ts 11=.int .i64 (i:Int)/\H=[]/\(i<=xs.length)/\(∀j,j<i->xs.getD j 0=ys.getD j 0)) (xs.length) ?_ ?_
 rotate_left
 ·refine⟨0,(by first|omega|rfl|simp),(by simp[bc,hl]),?_⟩;simp only[aY,hl,aa,ae,g0,g1]
  iterate 6 refine cI ?_
  refine⟨?_,?_⟩
  ·first|omega|trivial
  ·first|(intro j hj;omega)|trivial
 clear hl g0 g1 ts;rintro k_ ts H ⟨i,rfl,hl,g0,g1,g9,g10,g11,rfl,hi,hq⟩;refine VS ?_;by_cases hd:i<xs.length
 rotate_left
 ·have d1:decide ((i:Int)<(xs.length:Int))=false:=bh (by omega);by_cases yk:xs.length<ys.length
  ·have d2:decide ((xs.length:Int)<(ys.length:Int))=true:=bj;simp only[↓aL,aM,aJ,↓reduceIte,aa,ae,aB,hl,g0,g1,g10,g11,d1,d2];exact⟨_,rfl,fun _=>.inl yk⟩
  ·have d2:decide ((xs.length:Int)<(ys.length:Int))=false:=bh (by omega);simp only[↓aL,aM,aJ,↓reduceIte,aa,ae,hl,g0,g1,g10,g11,d1,d2];exact⟨_,rfl,fun h=>absurd h (by decide)⟩
 have d1:decide ((i:Int)<(xs.length:Int))=true:=bj;have c1:=eP (i:=i) (n:=xs.length) hd;have px:=XS (xs:=xs) hd;have w1:=wz (z:=(i:Int)+1) (m:=i+1);by_cases hy2:i<ys.length
 rotate_left
 ·have d2:decide ((i:Int)≥(ys.length:Int))=true:=bj;simp only[↓aL,aM,aJ,↓reduceIte,aa,ae,hl,g1,g9,g10,g11,c1,px,d2];exact⟨_,rfl,fun h=>absurd h (by decide)⟩
 have d2:decide ((i:Int)≥(ys.length:Int))=false:=bh (by omega);have c2:=eP (i:=i) (n:=ys.length) hy2;have py:=XS (xs:=ys) hy2;have hc:=Ck (E:=E) (a:=xs.getD i 0) (b:=ys.getD i 0);have o9:=@Wd (xs.getD i 0) (ys.getD i 0);have atY:=@R7 (xs.getD i 0) (ys.getD i 0);generalize Et (xs.getD i 0) (ys.getD i 0)=z at hc o9 atY;by_cases hz:z=0
 ·have b1:(z !=0)=false:=by simp[hz]
  simp only[↓aL,aM,↓aS,aJ,↓reduceIte,aa,ae,hl,g1,g9,g10,g11,c1,c2,px,py,d2,hc,b1,w1];refine bI ?_;refine⟨_,?_,i+1,rfl,(by simp[bc,hl]),?_⟩
  ·first|omega|(simp;omega)
  simp only[aY,hl,aa,ae,g0,g1,g9,g10]
  iterate 6 refine cI ?_
  refine⟨?_,?_⟩
  ·omega
  ·intro j hj;rcases aUh (aUl hj)with h|rfl
   ·exact hq j h
   ·exact atY hz
 ·have b1:(z !=0)=true:=by simp[hz]
  simp only[↓aL,aM,↓aS,aJ,↓reduceIte,aa,ae,hl,g1,g9,g10,g11,c1,c2,px,py,d2,hc,b1];exact⟨_,rfl,fun h=>.inr ⟨i,hd,hq,o9 h⟩⟩
def GS{x y z o x' y' z' o':AV}{xs ys:List Int}(hx:xs.length<=1000000)(hy:ys.length<=1000000)(h1:[x,y,z,o,x',y',z',o'].all cN=true)(h2:aV [x,y,z,o,x',y',z',o']=true):
  ∃r,aP E 162 [.agg [x,y,z,o,.aK (iL xs) xs.length],.agg [x',y',z',o',.aK (iL ys) ys.length]]=some r/\∃z:Int,r=.int .i64 z:=by
 obtain⟨r,hr,w,rfl,-⟩:=Gp (E:=E) hx hy;have p1:=yr xs;have p2:=yr ys;simp only[List.all_cons,List.all_nil,Bool.and_true,aM6]at h1;obtain⟨a1,a2,a3,a4,a5,a6,a7,a8⟩:=h1;refine oA arb ?_;intro ts hl g0 g1;unfold aoI;simp only[↓aL,aM,↓aS,aJ,ct,aa,ae,Tryz.f162,hl,g0,g1,hr];exact⟨w,rfl⟩
def Zj{a b:Int}:∃r,aP E 170 [.aK [.int .i64 a,.int .i64 b] 2]=some r/\∃z:Int,r=.int .i64 z:=by
 refine nY arj ?_;intro ts hl g0;unfold aoP;simp only[↓aL,aM,aJ,aa,ae,Tryz.f170,hl,g0];have w1:aW .i64 ((0:Int)+1)=1:=by decide
 have w2:aW .i64 ((1:Int)+1)=2:=by decide
 refine cC (fun k_ ts H=>∃i:Nat,k_=(2-i:Nat)/\ts.length=18/\gt ts 3=.int .i64 0/\gt ts 6=.aK [.int .i64 a,.int .i64 b] 2/\gt ts 7=.int .i64 2/\gt ts 8=.int .i64 (i:Int)/\H=[]/\(i<=2)) (2) ?_ ?_
 rotate_left
 ·refine⟨0,(by first|omega|rfl|simp),(by simp[bc,hl]),?_⟩;simp only[aY,hl,aa,ae]
  iterate 5 refine cI ?_
  ·first|omega|trivial
 clear hl g0 ts;rintro k_ ts H ⟨i,rfl,hl,g3,g6,g7,g8,rfl,hi⟩;refine VS ?_;by_cases hd:i<2
 rotate_left
 ·have d1:decide ((i:Int)<2)=false:=bh (by omega);simp only[↓aL,aM,↓reduceIte,aa,ae,hl,g3,g7,g8,d1];exact⟨_,rfl⟩
 have d1:decide ((i:Int)<2)=true:=bj;have ci:((i:Int)<2)=True:=eq_true (by omega);have lP:=wz (z:=(i:Int)+1) (m:=i+1);obtain⟨z,px⟩:∃z,eW false 1 [AV.int .i64 a,.int .i64 b] i=some (.int .i64 z):=by
  have:i=0∨i=1:=by omega
  rcases this with rfl|rfl<;>exact⟨_,rfl⟩
 by_cases hz:z=0
 ·have b1:(z !=0)=false:=by simp[hz]
  simp only[↓aL,aM,aJ,↓reduceIte,aa,ae,hl,g3,g6,g7,g8,ci,px,b1,lP];refine bI ?_;refine⟨_,?_,i+1,rfl,(by simp[bc,hl]),?_⟩
  ·first|omega|(simp;omega)
  simp only[aY,hl,aa,ae,g3,g6,g7]
  iterate 5 refine cI ?_
  ·omega
 ·have b1:(z !=0)=true:=by simp[hz]
  simp only[↓aL,aM,aJ,↓reduceIte,aa,ae,hl,g3,g6,g7,g8,ci,px,b1];exact⟨_,rfl⟩
def axw{o:Nat->List AV->Option AV}{aR:Nat}{u v:Int}:bZ (EN o) aR 67 2 [(0,.int .i64 u),(1,.int .i64 v)]=some (.aI aR 0 2 1 2,[(aR,.cells .live [.int .i64 u,.int .i64 v])]):=by kernel_rfl
def GM{a b c d a' b' c' d':Int}:
  ∃r,aP E 169 [.agg [.int .i64 a,.int .i64 b,.int .i64 c,.int .i64 d],.agg [.int .i64 a',.int .i64 b',.int .i64 c',.int .i64 d']]=some r/\∃z:Int,r=.int .i64 z:=by
 have h1:=Ck (E:=E) (a:=a) (b:=a');have h2:=Ck (E:=E) (a:=b) (b:=b');generalize Et a a'=u at h1;generalize Et b b'=v at h2;obtain⟨r,hr,w,rfl⟩:=Zj (E:=E) (a:=u) (b:=v);have hb:∀aR,bZ E aR 67 2 [(0,.int .i64 u),(1,.int .i64 v)]=some (.aI aR 0 2 1 2,[(aR,.cells .live [.int .i64 u,.int .i64 v])]):=by intro aR;obtain⟨o,rfl⟩:=wH C;exact axw
 have gH:=yg (H:=[.cells .live [.int .i64 a,.int .i64 b,.int .i64 c,.int .i64 d],.cells .live [.int .i64 a',.int .i64 b',.int .i64 c',.int .i64 d'],.cells .live [.int .i64 u,.int .i64 v]]) (b:=2) (m:=2) (s:=1) (st:=.live) rfl (by decide) rfl (fun x hx=>by simp at hx;rcases hx with rfl|rfl<;>exact fun _ _=>rfl);refine oA ari ?_;intro ts hl g0 g1;unfold aoO;simp only[↓aL,aM,↓aS,aJ,ct,aa,ah,ae,Tryz.f169,hl,g0,g1,h1,h2,hr,hb,gH];exact⟨w,rfl⟩
inductive L1:Bool->Nat->(Nat->Nat)->Nat->Prop
 |i:L1 false 1 (fun i=>i) 240
 |v:L1 true 3 (fun i=>i*3) 241
 |s:L1 true 3 (fun i=>i*3) 128
 |p:L1 true 3 (fun i=>i*3) 27
 |n:L1 true 9 (fun i=>i*9) 30
inductive aa7:Nat->Nat->Prop
 |i:aa7 240 200
 |v:aa7 241 204
 |s:aa7 128 92
def LH{ag:Bool}{K f:Nat}{ix:Nat->Nat}(I:L1 ag K ix f){n g:Nat}{cs caps:List AV}{el:Nat->AV}(hn:n<1000000000)(hg:bF E g=false)(pN:aV cs=true)(sy:aV caps=true)
  (sd:∀i,i<n->eW ag K cs (ix i)=some (el i)) (hep:∀i,i<n->aU (el i)=true) {p:Nat->Bool} (hc:∀i,i<n->aP E g (el i::caps)=some (.bool (p i))):
  ∃r,aP E f [.aK cs n,.func g [] caps]=some r/\∃z:Int,r=.int .i64 z/\((z= -1/\∀i,i<n->p i=false)∨∃k,k<n/\z=(k:Int)/\p k=true/\∀j,j<k->p j=false):=by
 cases I
 all_goals
  have kg:=fun{dr st:Bool} {bl:List AV} {H:Hp} {k:AV->cF->Prop}=>jy (E:=E) (dr:=dr) (st:=st) (f:=g) (bl:=bl) (H:=H) (k:=k) hg
  refine gv2 (C.ov _ _ (by decide)) (by rw[C.fn];first|with_reducible exact arM|with_reducible exact arN|with_reducible exact aqZ|with_reducible exact ayt|with_reducible exact ayu) rfl (by decide) ?_;intro ts hl g0 g1
  first|unfold apm|unfold apn|unfold RQ|unfold c27|unfold c30
  simp only[↓aL,aM,aJ,aa,ae,Tryz.f240,Tryz.f241,Tryz.f128,Tryz.f27,Tryz.f30,aB,hl,g0];refine cC (fun k_ ts H=>∃i:Nat,k_=(n-i:Nat)/\ts.length=19/\gt ts 0=.aK cs n/\gt ts 1=.func g [] caps/\gt ts 7=.int .i64 (n:Int)/\gt ts 8=.int .i64 (i:Int)/\H=[]/\(i<=n)/\(∀j,j<i->p j=false)) (n) ?_ ?_
  rotate_left
  ·refine⟨0,(by first|omega|rfl|simp),(by simp[bc,hl]),?_⟩;simp only[aY,hl,aa,ae,g0,g1]
   iterate 5 refine cI ?_
   refine⟨?_,?_⟩
   ·first|omega|trivial
   ·first|(intro j hj;omega)|trivial
  clear hl g0 g1 ts;rintro k_ ts H ⟨i,rfl,hl,g0,g1,g7,g8,rfl,hi,hq⟩;refine VS ?_;by_cases hd:i<n
  rotate_left
  ·have d1:decide ((i:Int)<(n:Int))=false:=bh (by omega);simp only[↓aL,aM,↓reduceIte,aa,aB,hl,g7,g8,d1];exact⟨_,rfl,.inl ⟨rfl,fun j hj=>hq j (by omega)⟩⟩
  have d1:decide ((i:Int)<(n:Int))=true:=bj;have ci:=eP (i:=i) (n:=n) hd;have w1:=wz (z:=(i:Int)+1) (m:=i+1);have akg:=sd i hd
  try dsimp only at akg
  have asY:=hep i hd;have hb:=hc i hd;cases hpi:p i
  ·rw[hpi]at hb;simp only[↓aL,aM,aJ,↓reduceIte,aa,ae,hl,g0,g1,g7,g8,ci,w1,akg,asY,kg,sy,hb];refine bI ?_;refine⟨_,?_,i+1,rfl,(by simp[bc,hl]),?_⟩
   ·first|omega|(simp;omega)
   simp only[aY,hl,aa,ae,g0,g1,g7]
   iterate 5 refine cI ?_
   refine⟨?_,?_⟩
   ·omega
   ·intro j hj;rcases aUh (aUl hj)with h|rfl
    ·exact hq j h
    ·exact hpi
  ·rw[hpi]at hb;simp only[↓aL,aM,aJ,↓reduceIte,aa,ae,aB,hl,g0,g1,g7,g8,ci,akg,asY,kg,sy,hb];exact⟨_,rfl,.inr ⟨i,hd,rfl,hpi,hq⟩⟩
def oU{ag:Bool}{K f:Nat}{ix:Nat->Nat}(I:L1 ag K ix f){f2:Nat}(J:aa7 f f2){n g:Nat}{cs caps:List AV}{el:Nat->AV}(hn:n<1000000000)(hg:bF E g=false)(pN:aV cs=true)(sy:aV caps=true)
  (sd:∀i,i<n->eW ag K cs (ix i)=some (el i)) (hep:∀i,i<n->aU (el i)=true) {p:Nat->Bool} (hc:∀i,i<n->aP E g (el i::caps)=some (.bool (p i))):
  ∃r,aP E f2 [.aK cs n,.func g [] caps]=some r/\∃b:Bool,r=.bool b/\(b=false->∀i,i<n->p i=false):=by
 cases J
 all_goals
  obtain⟨r,hr,z,rfl,h1⟩:=LH (E:=E) I hn hg pN sy sd hep hc;refine gv2 (C.ov _ _ (by decide)) (by rw[C.fn];first|with_reducible exact arz|with_reducible exact arD|with_reducible exact ayV) rfl (by decide) ?_;intro ts hl g0 g1
  first|unfold ao9|unfold apd|unfold c92
  simp only[↓aL,aM,↓aS,aJ,aa,ae,Tryz.f200,Tryz.f204,Tryz.f92,hl,g0,g1,hr,sy];refine⟨_,rfl,fun h=>?_⟩;rcases h1 with⟨-,h1⟩|⟨k,-,rfl,-⟩
  ·exact h1
  ·simp at h
end Go.Proofs.YtmkjgfnicfpjpaaGreatDoor
